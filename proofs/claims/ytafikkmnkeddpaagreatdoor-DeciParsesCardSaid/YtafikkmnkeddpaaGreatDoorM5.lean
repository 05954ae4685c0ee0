/- DeciParses: for every format number, mode number and text, deci.Parse answers as the document says (pattern, flags, error): the statement Rows.DeciParsesCardSaid, the row tied to the text of the program. No condition. -/
import Derived.Test.YtafikkmnkeddpaaGreatDoorRows
import Derived.LaidMore
import Derived.ChangeAt
import Derived.Stop.LaidErr
import Derived.Lib.LaidU8
import Derived.Lib.LaidCase
import Derived.Test.YtafikkmnkeddpaaGreatDoorCards
import Derived.Test.YtafikkmnkeddpaaGreatDoorTie
import Derived.ProofKit
import Derived.OpenShut
import Derived.Lay
import Derived.ChangeMaps5
import Derived.Stop.Joined
import Derived.Lib.SmallJoins
import Derived.SevenTiedAt
import Derived.Test.YtafikkmnkeddpaaGreatDoorM4
set_option linter.unusedVariables false
set_option linter.unusedSimpArgs false
namespace Go.Proofs.YtafikkmnkeddpaaGreatDoor.P
open Go.RowKit Go.Proofs.YtafikkmnkeddpaaGreatDoorW.PrintWords Go.Proofs.YtafikkmnkeddpaaGreatDoorW.PrintLast Go.Proofs.YtafikkmnkeddpaaGreatDoorW.PrintMore
theorem Gy (m : Int) (neg : Bool) (u l : Nat) {B : Nat} (h : cZ u ≤ B) : cZ (gB m neg u l) ≤ B + 1 := by
 refine kW ?_
 have h3 := qx m neg u l
 have h4 := Nat.lt_of_lt_of_le (jq u) (Nat.pow_le_pow_right (show 0 < 2 by decide) h)
 rw [Nat.pow_succ]
 have := Nat.two_pow_pos B
 omega
theorem EC {v : Nat} (h : cZ v ≤ 66) : (toW v).length ≤ 2 := jg (by
 have h1 := Nat.lt_of_lt_of_le (jq v) (Nat.pow_le_pow_right (show 0 < 2 by decide) h)
 exact Nat.lt_of_lt_of_le h1 (by decide))
theorem Tt {a : Int} {F : Fm} (h : oU a = some F) (m : Int) (neg more : Bool) {n : Nat} {e t : Int} (hn : (toW n).length ≤ 900) (h1 : -50000 ≤ e) (h2 : e ≤ 50000) (h3 : -90000 ≤ t) (h4 : t ≤ 90000) (h5 : e ≤ t) (hs : cZ (qy m neg more n e (t - F.P + 1)).1 ≤ 66) :
  Ev (fun k => dX.f k neg (wI n) e more (F.W : Int) (F.P : Int) F.emin F.emax m t) (decide (¬ F.emin ≤ t ∧ t - F.P + cZ (qy m neg more n e (t - F.P + 1)).1 < F.emin)) := by
 have hF := rX h
 have hpw := hF.small.ok.pw
 have hw := hF.small.ok.w64
 unfold dX.f
 by_cases hg : F.emin ≤ t
 ·refine Ev.pos hg ?_
  rw [decide_eq_false (fun hh => hh.1 hg)]
  exact Ev.now _
 ·refine Ev.neg hg ?_
  have e1 : wrap64 ((wrap64 (t - (F.P : Int))) + 1) = t - F.P + 1 := by rw [w64 (x := t - (F.P : Int)) (by omega) (by omega), w64 (by omega) (by omega)]
  have hc := IE m neg more (n := n) (e := e) (q := t - F.P + 1) hn (by omega) (by omega) (by omega) (by omega) (by omega)
  rw [e1]
  refine Ev.bind hc ?_
  generalize qy m neg more n e (t - F.P + 1) = c at *
  have hl := EC hs
  have e2 : wrap64 ((wrap64 (t - (F.P : Int))) + ((cZ c.1 : Nat) : Int)) = t - F.P + cZ c.1 := by rw [w64 (x := t - (F.P : Int)) (by omega) (by omega), w64 (by omega) (by omega)]
  rw [Gx (v := c.1) (by omega)]
  simp only [Option.bind_some, e2]
  have : decide (¬ F.emin ≤ t ∧ t - F.P + ((cZ c.1 : Nat) : Int) < F.emin) = decide (t - F.P + ((cZ c.1 : Nat) : Int) < F.emin) := decide_eq_decide.2 ⟨fun hh => hh.2, fun hh => ⟨hg, hh⟩⟩
  rw [this]
  exact Ev.now _
theorem MR {a : Int} {F : Fm} (h : oU a = some F) (m : Int) (neg more : Bool) {n : Nat} {e t : Int} (hn : (toW n).length ≤ 900) (h1 : -50000 ≤ e) (h2 : e ≤ 50000) (h3 : -90000 ≤ t) (h4 : t ≤ 90000) (h5 : e ≤ t) (hs : cZ (qy m neg more n e (t - F.P + 1)).1 ≤ 66) (b : Bool) (x : Int) :
  Ev (fun k => aU.j1 k m t b x neg (wI n) e more (F.W : Int) (F.P : Int) F.emin F.emax) (x, (((if b = false then 0 else if F.emin ≤ t then 16 else if t - F.P + cZ (qy m neg more n e (t - F.P + 1)).1 < F.emin then 24 else 16) : Nat) : Int)) := by
 cases b
 ·exact Ev.one fun k => by rw [aU.j1, if_neg (by decide)]; rfl
 ·refine Ev.step (f := fun k => (dX.f k neg (wI n) e more (F.W : Int) (F.P : Int) F.emin F.emax m t).bind fun t205 => (if t205 = true then (some (x, 24)) else (some (x, 16)))) (fun k => by rw [aU.j1, if_pos rfl]) ?_
  refine Ev.bind (Tt h m neg more hn h1 h2 h3 h4 h5 hs) ?_
  simp only [show (true = false) = False from by simp, if_false]
  by_cases hg : F.emin ≤ t
  ·rw [if_pos hg]
   exact Ev.neg (fun hh => (of_decide_eq_true hh).1 hg) (Ev.now _)
  ·rw [if_neg hg]
   by_cases hz : t - F.P + ((cZ (qy m neg more n e (t - F.P + 1)).1 : Nat) : Int) < F.emin
   ·rw [if_pos hz]
    exact Ev.pos (decide_eq_true ⟨hg, hz⟩) (Ev.now _)
   ·rw [if_neg hz]
    exact Ev.neg (fun hh => hz (of_decide_eq_true hh).2) (Ev.now _)
theorem MS {a : Int} {F : Fm} (h : oU a = some F) (m : Int) (neg more : Bool) {n : Nat} {e : Int} (hn0 : n ≠ 0) (hn : (toW n).length ≤ 900) (h1 : -50000 ≤ e) (h2 : e ≤ 20000) (hlt : (BX F m neg more n e).1 < 2 ^ F.W)
  (hs : ∀ q, e + cZ n - 1 - F.P + 1 ≤ q → cZ (qy m neg more n e q).1 ≤ 66) :
  Ev (fun k => aU.f k neg (wI n) e more a (F.W : Int) (F.P : Int) F.emin F.emax m) (((BX F m neg more n e).1 : Int), ((BX F m neg more n e).2 : Int)) := by
 have hF := rX h
 have hp2 := hF.small.ok.p2
 have hpw := hF.small.ok.pw
 have hw := hF.small.ok.w64
 have htop := hF.small.top
 have htop0 := hF.small.top0
 have hemin := hF.emin1
 have hee := hF.small.ok.ee
 have b1 := lK n
 have bp : 0 < cZ n := by rw [jQ hn0]; omega
 have bb := Pm h m neg
 unfold aU.f fB.f
 rw [Gx (v := n) (by omega)]
 have et : wrap64 ((wrap64 (e + ((cZ n : Nat) : Int))) - 1) = e + cZ n - 1 := by rw [w64 (x := e + ((cZ n : Nat) : Int)) (by omega) (by omega), w64 (by omega) (by omega)]
 simp only [Option.bind_some, et]
 unfold BX at hlt ⊢
 simp only [] at hlt ⊢
 obtain ⟨t, ht⟩ : ∃ t, t = e + cZ n - 1 := ⟨_, rfl⟩
 rw [← ht] at hlt hs ⊢
 have htr : -60000 ≤ t ∧ t ≤ 80000 ∧ e ≤ t := by omega
 by_cases hov : F.emax < t
 ·rw [if_pos hov]
  exact Ev.pos hov (Ev.bind bb (Ev.now _))
 ·rw [if_neg hov] at hlt ⊢
  refine Ev.neg hov ?_
  obtain ⟨q, hq⟩ : ∃ q, q = max t F.emin - F.P + 1 := ⟨_, rfl⟩
  have eq : wrap64 ((wrap64 ((mx t F.emin) - (F.P : Int))) + 1) = q := by rw [qY, w64 (x := max t F.emin - (F.P : Int)) (by omega) (by omega), w64 (by omega) (by omega)]; omega
  have el : wrap64 ((wrap64 (F.emin - (F.P : Int))) + 1) = F.emin - F.P + 1 := by rw [w64 (x := F.emin - (F.P : Int)) (by omega) (by omega), w64 (by omega) (by omega)]
  have eP : wrap64 ((F.P : Int) - 1) = ((F.P - 1 : Nat) : Int) := by rw [w64 (by omega) (by omega)]; omega
  have eW : wrap64 ((F.W : Int) - 1) = ((F.W - 1 : Nat) : Int) := by rw [w64 (by omega) (by omega)]; omega
  have hsq := hs q (by omega)
  have hst := hs (t - F.P + 1) (Int.le_refl _)
  have hcut := IE m neg more (n := n) (e := e) (q := q) hn (by omega) (by omega) (by omega) (by omega) (by omega)
  rw [← hq] at hlt ⊢
  have hj1 := fun (b : Bool) (x : Int) => MR h m neg more hn h1 (by omega) (by omega) (by omega) htr.2.2 hst b x
  simp only [eq, el, eP]
  refine Ev.bind hcut ?_
  simp only []
  generalize hcc : qy m neg more n e q = c at *
  obtain ⟨u, ix⟩ := c
  simp only [] at hlt hsq hcc ⊢
  have hul := EC hsq
  have c0 : (0 : Int) ≤ ((F.P - 1 : Nat) : Int) := Int.natCast_nonneg _
  have c1 : (0 : Int) ≤ ((F.W - 1 : Nat) : Int) := Int.natCast_nonneg _
  refine Ev.pos c0 ?_
  obtain ⟨k0, hk0⟩ : ∃ k0 : Nat, k0 = (q - (F.emin - F.P + 1)).toNat := ⟨_, rfl⟩
  have ek : wrap64 (q - (F.emin - F.P + 1)) = (k0 : Int) := by rw [w64 (by omega) (by omega)]; omega
  have eo : wrap64 ((wrap64 (q + ((cZ u : Nat) : Int))) - 1) = q + cZ u - 1 := by rw [w64 (x := q + ((cZ u : Nat) : Int)) (by omega) (by omega), w64 (by omega) (by omega)]
  have fin : ∀ x : Int, (¬ F.emax < q + cZ u - 1 → x = ((k0 * 2 ^ (F.P - 1) + u : Nat) : Int)) → Ev (fun k => aU.j0 k a m t q (wI u) ix x neg (wI n) e more (F.W : Int) (F.P : Int) F.emin F.emax)
    ((((if F.emax < q + cZ u - 1 then (lF F m neg, 20) else ((q - (F.emin - F.P + 1)).toNat * 2 ^ (F.P - 1) + u + (if neg = true then 2 ^ (F.W - 1) else 0), if ix = false then 0 else if F.emin ≤ t then 16 else if t - F.P + cZ (qy m neg more n e (t - F.P + 1)).1 < F.emin then 24 else 16) : Nat × Nat)).1 : Int), (((if F.emax < q + cZ u - 1 then (lF F m neg, 20) else ((q - (F.emin - F.P + 1)).toNat * 2 ^ (F.P - 1) + u + (if neg = true then 2 ^ (F.W - 1) else 0), if ix = false then 0 else if F.emin ≤ t then 16 else if t - F.P + cZ (qy m neg more n e (t - F.P + 1)).1 < F.emin then 24 else 16) : Nat × Nat)).2 : Int)) := fun x hx => by
   by_cases hb : F.emax < q + cZ u - 1
   ·rw [if_pos hb]
    refine Ev.step (f := fun k => (bH.f k a m neg).bind fun t204 => (some (t204, 20))) (fun k => ?_) (Ev.bind bb (Ev.now _))
    rw [aU.j0, Gx (v := u) (by omega)]
    simp only [Option.bind_some, eo]
    rw [if_pos hb]
   ·rw [if_neg hb] at hlt ⊢
    rw [← hk0] at hlt ⊢
    have hxx := hx hb
    subst hxx
    have head : ∀ k, aU.j0 (k + 1) a m t q (wI u) ix ((k0 * 2 ^ (F.P - 1) + u : Nat) : Int) neg (wI n) e more (F.W : Int) (F.P : Int) F.emin F.emax = (if neg = true then (aU.j1 k m t ix (Go.bits .or .u64 ((k0 * 2 ^ (F.P - 1) + u : Nat) : Int) (shl .u64 1 ((F.W - 1 : Nat) : Int))) neg (wI n) e more (F.W : Int) (F.P : Int) F.emin F.emax) else (aU.j1 k m t ix ((k0 * 2 ^ (F.P - 1) + u : Nat) : Int) neg (wI n) e more (F.W : Int) (F.P : Int) F.emin F.emax)) := fun k => by
     rw [aU.j0, Gx (v := u) (by omega)]
     simp only [Option.bind_some, eo, eW]
     rw [if_neg hb, if_pos c1]
    cases hneg : neg with
    | false =>
     rw [hneg] at head hlt hj1
     have hfin := hj1 ix ((k0 * 2 ^ (F.P - 1) + u : Nat) : Int)
     rw [if_neg (by decide), Nat.add_zero] at hlt ⊢
     exact Ev.step (fun k => by rw [head, if_neg (by decide)]) hfin
    | true =>
     rw [hneg] at head hlt hj1
     rw [if_pos rfl] at hlt ⊢
     have hWW : 2 ^ F.W = 2 ^ (F.W - 1) + 2 ^ (F.W - 1) := by
      obtain ⟨w, hw'⟩ : ∃ w, F.W = w + 1 := ⟨F.W - 1, by omega⟩
      rw [hw', Nat.pow_succ, Nat.add_sub_cancel]; omega
     have h64 : 2 ^ F.W ≤ 18446744073709551616 := by
      have : 2 ^ F.W ≤ 2 ^ 64 := Nat.pow_le_pow_right (by decide) hw
      exact this
     simp only [] at hlt
     have g1 : k0 * 2 ^ (F.P - 1) + u < 2 ^ (F.W - 1) := by clear eq el eP eW ek eo et; omega
     have g2 : 1 * 2 ^ (F.W - 1) < 18446744073709551616 := by clear eq el eP eW ek eo et; omega
     have g3 : k0 * 2 ^ (F.P - 1) + u < 18446744073709551616 := by clear eq el eP eW ek eo et; omega
     have g4 : 2 ^ (F.W - 1) < 18446744073709551616 := by clear eq el eP eW ek eo et; omega
     have g5 : F.W - 1 ≤ 64 := by clear eq el eP eW ek eo et; omega
     have hsh := qM (x := 1) g5 g2
     rw [show ((1 : Nat) : Int) = 1 from rfl, Nat.one_mul] at hsh
     have hor : Go.bits .or .u64 ((k0 * 2 ^ (F.P - 1) + u : Nat) : Int) (shl .u64 1 ((F.W - 1 : Nat) : Int)) = ((k0 * 2 ^ (F.P - 1) + u + 2 ^ (F.W - 1) : Nat) : Int) := by
      rw [hsh, u64_or_nat _ _ g3 g4, Nat.or_comm]
      have h7 := Nat.two_pow_add_eq_or_of_lt g1 1
      rw [Nat.mul_one] at h7
      rw [← h7, Nat.add_comm]
     have hfin := hj1 ix ((k0 * 2 ^ (F.P - 1) + u + 2 ^ (F.W - 1) : Nat) : Int)
     exact Ev.step (fun k => by rw [head, if_pos rfl, hor]) hfin
  have fld : ¬ F.emax < q + cZ u - 1 → k0 * 2 ^ (F.P - 1) + u < 18446744073709551616 := fun hb => by
   rw [if_neg hb, ← hk0] at hlt
   simp only [] at hlt
   have h64 : 2 ^ F.W ≤ 18446744073709551616 := by
    have : 2 ^ F.W ≤ 2 ^ 64 := Nat.pow_le_pow_right (by decide) hw
    exact this
   clear eq el eP eW ek eo et
   omega
  have k6 : F.P - 1 ≤ 64 := by clear eq el eP eW ek eo et; omega
  have kk : ∀ hh : k0 * 2 ^ (F.P - 1) + u < 18446744073709551616, shl .u64 (IntKind.u64.wrap (k0 : Int)) ((F.P - 1 : Nat) : Int) = ((k0 * 2 ^ (F.P - 1) : Nat) : Int) := fun hh => by
   have hp := Nat.two_pow_pos (F.P - 1)
   have h8 : k0 * 2 ^ (F.P - 1) < 18446744073709551616 := Nat.lt_of_le_of_lt (Nat.le_add_right _ _) hh
   have h9 : k0 < 18446744073709551616 := Nat.lt_of_le_of_lt (Nat.le_mul_of_pos_right _ hp) h8
   rw [rJ h9, qM k6 h8]
  simp only [ek]
  by_cases hu0 : u = 0
  ·subst hu0
   rw [gJ, gZ]
   refine Ev.neg (by decide) (fin _ fun hb => ?_)
   rw [kk (fld hb), Nat.add_zero]
  ·have hp := iJ hu0
   rw [gJ]
   refine Ev.pos (Int.natCast_pos.2 hp) (Ev.pos (Int.natCast_pos.2 hp) (fin _ fun hb => ?_))
   have hf := fld hb
   have h8 : u < WB := Nat.lt_of_le_of_lt (Nat.le_add_left _ _) hf
   rw [kk hf, Gw hu0, Nat.mod_eq_of_lt h8, LY hf]
theorem MV {a : Int} {F : Fm} (h : oU a = some F) {m : Int} (hm : ¬ (m < 0 ∨ 5 < m)) : fZ.f a m = some ((F.W : Int), (F.P : Int), F.emin, F.emax, 0) := by
 have h1 : ¬ m < 0 := fun hh => hm (.inl hh)
 have h2 : ¬ m > 5 := fun hh => hm (.inr hh)
 unfold fZ.f fE.f
 rw [IB h]
 simp only [Option.bind_some, if_true]
 rw [if_neg h1, if_neg h2]
 rfl
theorem Ev.bs {α β : Type} {a : α} {f : Nat → α → Option β} {r : β} (k : Ev (fun n => f n a) r) : Ev (fun n => (some a).bind (f n)) r := k
theorem pTrim {v : Nat} (hv : (toW v).length ≤ 400) : jl.f (wI v) = some (wI v) := by
 unfold jl.f
 rw [if_pos (OkI.wI (by omega)), jU]
theorem JA {num den n : Nat} {e : Int} {mo : Bool} {P : Nat} (hQ : EL num den 0 n e mo P) (hP : P ≤ 60) (hn : num ≠ 0) (hdp : 0 < den) (m : Int) (neg : Bool) {q : Int} (hq : e + cZ n - 1 - P + 1 ≤ q) : cZ (qy m neg mo n e q).1 ≤ 66 := by
 have htop := hQ.top hn hdp
 have hts := nO hn hdp 0
 have hqq : 2 ≤ q - e ∨ mo = false := by
  cases hmm : mo with
  | false => exact .inr rfl
  | true =>
   left
   have := hQ.long hmm
   omega
 have hc := hQ.cut hdp hqq
 unfold qy
 rw [← hc.1]
 refine Nat.le_trans (Gy m neg _ _ (B := P) ?_) (by omega)
 rcases Int.lt_or_le (qO num den 0) q with h5 | h5
 ·rw [vC hts h5, o7]; exact Nat.zero_le _
 ·rw [oh hts h5]; omega
theorem Gz {a : Int} {F : Fm} (h : oU a = some F) {m : Int} (hm : ¬ (m < 0 ∨ 5 < m)) (neg : Bool) {num den : Nat} (p1 : 0 < (toW num).length) (p2 : 0 < (toW den).length) (hnl : (toW num).length ≤ 400) (hdl : (toW den).length ≤ 400) {dg : Nat} (hdg : dg = F.P + 3) (hw : F.P ≤ 64)
  {n : Nat} {e : Int} {mo : Bool} (he : -50000 ≤ e ∧ e ≤ 50000) (hq : Ev (fun k => aZ.f k (wI num) (wI den) (dg : Int)) (false, wI n, e, mo)) {R : Int × Int} (hinto : Ev (fun k => aU.f k neg (wI n) e mo a (F.W : Int) (F.P : Int) F.emin F.emax m) R) :
  Ev (fun k => cO.f k a m neg (wI num) (wI den) 0) (R.1, R.2, 0) := by
 have esz : wrap64 ((((wI num).length : Nat) : Int) + (((wI den).length : Nat) : Int)) = (((toW num).length + (toW den).length : Nat) : Int) := by rw [gJ, gJ, w64 (by omega) (by omega), Int.natCast_add]
 have cz : ¬ ((((toW num).length + (toW den).length : Nat) : Int) > 1024) := by clear esz; omega
 have cd : ¬ ((((wI den).length : Nat) : Int) = 0) := by rw [gJ]; clear esz; omega
 have cn : ¬ ((((wI num).length : Nat) : Int) = 0) := by rw [gJ]; clear esz; omega
 have e3 : wrap64 ((F.P : Int) + 3) = (dg : Int) := by rw [w64 (by clear esz; omega) (by clear esz; omega), hdg]; rfl
 have es : wrap64 (e + 0) = e := by rw [Int.add_zero]; exact w64 (by clear esz e3; omega) (by clear esz e3; omega)
 unfold cO.f
 rw [MV h hm]
 refine Ev.bs (Ev.pos rfl ?_)
 rw [pTrim hnl]
 refine Ev.bs ?_
 rw [pTrim hdl]
 refine Ev.bs ?_
 rw [esz]
 refine Ev.neg cz (Ev.neg (by decide) ?_)
 refine Ev.step (f := fun k => (aZ.f k (wI num) (wI den) (wrap64 ((F.P : Int) + 3))).bind fun bt221 => ((aU.f k neg bt221.2.1 (wrap64 (bt221.2.2.1 + 0)) bt221.2.2.2 a (F.W : Int) (F.P : Int) F.emin F.emax m).bind fun bt228 => (some (bt228.1, bt228.2, (0 : Int))))) (fun k => ?_) ?_
 ·rw [cO.j0, if_neg (by decide), if_neg cd, if_neg cn]
 ·rw [e3]
  refine Ev.bind hq ?_
  simp only [es]
  exact Ev.bind hinto (Ev.now _)
theorem BP {a : Int} {F : Fm} (h : oU a = some F) {m : Int} (hm : ¬ (m < 0 ∨ 5 < m)) (neg : Bool) {num den : Nat} (hn : num ≠ 0) (hd : den ≠ 0) (hnl : (toW num).length ≤ 400) (hdl : (toW den).length ≤ 400) :
  Ev (fun k => cO.f k a m neg (wI num) (wI den) 0) (((vF F m neg num den 0).1 : Int), ((vF F m neg num den 0).2 : Int), 0) := by
 have hF := rX h
 have hdp : 0 < den := Nat.pos_of_ne_zero hd
 have hP53 : F.P + 3 ≤ 60 := by
  refine nN (P := fun a F => F.P + 3 ≤ 60) ?_ ?_ ?_ ?_ h <;> decide
 obtain ⟨n, r, s, hq, hql, hqd, hs, hnn⟩ := Po hn hd hnl hdl (dg := F.P + 3) hP53
 have hQ : EL num den 0 n (0 - (s : Int)) (decide (0 < r)) F.P := hql.done hn F.P hqd 0
 rw [Int.zero_sub] at hQ
 have hie := PN hF.small.ok hQ hn hdp m neg
 have hlt := Nr hF.small.ok m neg (E := 0) hn hdp
 rw [← hie] at hlt ⊢
 have b1 : -50000 ≤ -(s : Int) := by omega
 have b2 : -(s : Int) ≤ 20000 := by omega
 have b3 : F.P ≤ 60 := by omega
 have hinto := MS h m neg (decide (0 < r)) hQ.pos hnn (e := -(s : Int)) b1 b2 hlt (fun q hq' => JA hQ b3 hn hdp m neg hq')
 exact Gz h hm neg (iJ hn) (iJ hd) hnl hdl rfl (by omega) ⟨b1, by omega⟩ hq hinto
end Go.Proofs.YtafikkmnkeddpaaGreatDoor.P
namespace Go.Proofs.YtafikkmnkeddpaaGreatDoor.P
open Go.RowKit Go.Proofs.YtafikkmnkeddpaaGreatDoorW.PrintWords Go.Proofs.YtafikkmnkeddpaaGreatDoorW.PrintLast Go.Proofs.YtafikkmnkeddpaaGreatDoorW.PrintMore
theorem pz (c : UInt8) : fJ.f ((c.toNat : Nat) : Int) = some (isD c) := yc c
theorem oV (s : ByteArray) : (s.toList = ([] : List UInt8)) = (s.size = 0) := by
 rw [jv, ← gG]
 exact propext (List.length_eq_zero_iff.symm)
theorem Rl (s : ByteArray) (neg : Bool) (h0 : 0 < s.size) (hs : s.size ≤ 1000000) : ∀ d i, i + d = s.size → ((bl s).take i).all isD = true → Ev (fun k => aA.l0 k s ((min (dK ((bl s).take i)) 1048576 : Nat) : Int) neg (s.size : Int) (i : Int)) (qc 1048576 (bl s) neg) := by
 intro d
 induction d with
 | zero =>
  intro i hi ha
  have c1 : ¬ ((i : Int) < (s.size : Int)) := by omega
  rw [List.take_of_length_le (by rw [gG]; omega)] at ha ⊢
  refine Ev.one fun k => ?_
  have hneg : wrap64 (-((min (dK (bl s)) 1048576 : Nat) : Int)) = -((min (dK (bl s)) 1048576 : Nat) : Int) := w64 (by omega) (by omega)
  rw [aA.l0, if_neg c1, hneg]
  unfold qc
  have hne : bl s ≠ [] := List.length_pos_iff.1 (by rw [gG]; exact h0)
  have ht : bl s ≠ [] ∧ (bl s).all isD = true := ⟨hne, ha⟩
  rw [if_pos ht]
  cases neg <;> rfl
 | succ d ih =>
  intro i hi ha
  have hlt : i < (bl s).length := by rw [gG]; omega
  have c1 : (i : Int) < (s.size : Int) := by omega
  have c2 : (0 : Int) ≤ (i : Int) := by omega
  have c3 : i < 1000000000000000000 := by omega
  have c4 : i + 1 + d = s.size := by omega
  by_cases hD : isD ((bl s).getD i 0) = true
  ·have hv := Iw hD
   have := ih (i + 1) c4 (uj hlt ha hD)
   rw [zQ s (by rw [← gG]; exact hlt), lu] at this
   refine Ev.step (f := fun k => aA.l0 k s ((min (10 * dK ((bl s).take i) + (((bl s).getD i 0).toNat - 48)) 1048576 : Nat) : Int) neg (s.size : Int) ((i + 1 : Nat) : Int)) (fun k => ?_) this
   rw [aA.l0, if_pos c1, if_pos c2, if_pos c1, kT, lu, pz]
   simp only [Option.bind_some]
   rw [if_pos hD, hv.1, lS c3]
   have := Iu 1048576 (dK ((bl s).take i)) (((bl s).getD i 0).toNat - 48) (by decide) hv.2
   rw [show ((1048576 : Nat) : Int) = 1048576 from rfl] at this
   rw [this]
  ·have hD' : isD ((bl s).getD i 0) = false := by simpa using hD
   refine Ev.one fun k => ?_
   rw [aA.l0, if_pos c1, if_pos c2, if_pos c1, kT, lu, pz]
   simp only [Option.bind_some]
   rw [if_neg hD]
   unfold qc
   rw [uh hlt hD', if_neg (by simp)]
theorem MW (s : ByteArray) (neg : Bool) (hs : s.size ≤ 1000000) : Ev (fun k => aA.j3 k s 0 neg) (qc 1048576 (bl s) neg) := by
 by_cases h0 : s.size = 0
 ·have hb : bl s = [] := List.length_eq_zero_iff.1 (by rw [gG]; exact h0)
  refine Ev.one fun k => ?_
  rw [aA.j3, if_pos (by rw [oV]; exact h0), hb]
  rfl
 ·refine Ev.step (f := fun k => aA.l0 k s 0 neg (s.size : Int) 0) (fun k => by rw [aA.j3, if_neg (by rw [oV]; exact h0)]) ?_
  exact Rl s neg (by omega) hs s.size 0 (Nat.zero_add _) rfl
theorem Pq (t : ByteArray) (hs : t.size ≤ 1000000) : ∀ c : Bool, c = jr (bl t) → Ev (fun k => aA.j1 k t 0 c) (exS 1048576 (bl t)) := by
 intro c hc
 have e0 : bt t 0 = (((bl t).getD 0 0).toNat : Int) := kT t 0
 have e45 := b8 ((bl t).getD 0 0) 45 (by decide) 45 rfl 45 rfl
 have e43 := b8 ((bl t).getD 0 0) 43 (by decide) 43 rfl 43 rfl
 have b43 := zT _ _ _ e43
 have hT := MW (t.extract 1 t.size) c (by rw [lN]; omega)
 rw [lM] at hT
 have hS := MW t c hs
 unfold exS iY
 rw [← hc]
 by_cases h45 : (bl t).getD 0 0 = 45
 ·have hcc : c = true := by rw [hc]; exact decide_eq_true h45
  have hp : 0 < t.size := by
   rw [← gG]
   rcases Nat.eq_zero_or_pos (bl t).length with h | h
   ·rw [List.length_eq_zero_iff.1 h] at h45; exact absurd h45 (by decide)
   ·exact h
  rw [if_pos (.inl h45)]
  have c3 : (1 : Int) ≤ (t.size : Int) := by omega
  refine Ev.step (f := fun k => aA.j2 k t 0 c true) (fun k => by rw [aA.j1, if_pos hcc]) ?_
  exact Ev.step (f := fun k => aA.j3 k (t.extract 1 t.size) 0 c) (fun k => by rw [aA.j2, if_pos rfl, if_pos c3]) hT
 ·have hcc : c = false := by rw [hc]; exact decide_eq_false h45
  have ncc : ¬ c = true := by rw [hcc]; decide
  by_cases hp : t.size = 0
  ·have hb : bl t = [] := List.length_eq_zero_iff.1 (by rw [gG]; exact hp)
   rw [if_neg (by rw [hb]; decide)]
   refine Ev.step (f := fun k => aA.j2 k t 0 c false) (fun k => by rw [aA.j1, if_neg ncc, if_pos (by rw [oV]; exact hp)]) ?_
   exact Ev.step (f := fun k => aA.j3 k t 0 c) (fun k => by rw [aA.j2, if_neg (by decide)]) hS
  ·have c2 : (0 : Int) < (t.size : Int) := by omega
   have c3 : (1 : Int) ≤ (t.size : Int) := by omega
   refine Ev.step (f := fun k => aA.j2 k t 0 c (decide ((bl t).getD 0 0 = 43))) (fun k => by rw [aA.j1, if_neg ncc, if_neg (by rw [oV]; exact hp), if_pos c2, e0, b43]) ?_
   by_cases h43 : (bl t).getD 0 0 = 43
   ·rw [if_pos (.inr h43), decide_eq_true h43]
    exact Ev.step (f := fun k => aA.j3 k (t.extract 1 t.size) 0 c) (fun k => by rw [aA.j2, if_pos rfl, if_pos c3]) hT
   ·rw [if_neg (by rintro (h | h); exact h45 h; exact h43 h), decide_eq_false h43]
    exact Ev.step (f := fun k => aA.j3 k t 0 c) (fun k => by rw [aA.j2, if_neg (by decide)]) hS
theorem Rn (s : ByteArray) (h0 : 0 < s.size) (hs : s.size ≤ 1000000) : Ev (fun k => aA.f k s) (if (bl s).getD 0 0 = 101 ∨ (bl s).getD 0 0 = 69 then exS 1048576 ((bl s).drop 1) else (0, false)) := by
 have e0 : bt s 0 = (((bl s).getD 0 0).toNat : Int) := kT s 0
 have e101 := b8 ((bl s).getD 0 0) 101 (by decide) 101 rfl 101 rfl
 have e69 := b8 ((bl s).getD 0 0) 69 (by decide) 69 rfl 69 rfl
 have c2 : (0 : Int) < (s.size : Int) := by omega
 have c3 : (1 : Int) ≤ (s.size : Int) := by omega
 have n69 : ((((bl s).getD 0 0).toNat : Int) != 69) = decide (¬ (bl s).getD 0 0 = 69) := by
  rw [Bool.eq_iff_iff, bne_iff_ne, decide_eq_true_eq, ne_eq, e69]
 have hj : Ev (fun k => aA.j0 k s 0 false) (exS 1048576 ((bl s).drop 1)) := by
  have hb := lM s 1
  have ht := lN s 1
  have hsz : (s.extract 1 s.size).size ≤ 1000000 := by omega
  have e0' : bt (s.extract 1 s.size) 0 = (((bl (s.extract 1 s.size)).getD 0 0).toNat : Int) := kT _ 0
  have e45 := b8 ((bl (s.extract 1 s.size)).getD 0 0) 45 (by decide) 45 rfl 45 rfl
  have b45 := zT _ _ _ e45
  have hsg := fun c hc => Pq (s.extract 1 s.size) hsz c hc
  rw [← hb]
  by_cases hz : (s.extract 1 s.size).size = 0
  ·refine Ev.step (f := fun k => aA.j1 k (s.extract 1 s.size) 0 false) (fun k => by rw [aA.j0, if_neg (by decide), if_pos c3, if_pos (by rw [oV]; exact hz)]) (hsg false ?_)
   have : bl (s.extract 1 s.size) = [] := List.length_eq_zero_iff.1 (by rw [gG]; exact hz)
   rw [this]
   rfl
  ·have c4 : (0 : Int) < ((s.extract 1 s.size).size : Int) := by omega
   exact Ev.step (f := fun k => aA.j1 k (s.extract 1 s.size) 0 (decide ((bl (s.extract 1 s.size)).getD 0 0 = 45))) (fun k => by rw [aA.j0, if_neg (by decide), if_pos c3, if_neg (by rw [oV]; exact hz), if_pos c4, e0', b45]) (hsg _ rfl)
 unfold aA.f
 refine Ev.pos c2 ?_
 rw [e0]
 by_cases h1 : (bl s).getD 0 0 = 101
 ·rw [if_pos (.inl h1)]
  exact Ev.pos (by rw [e101]; exact h1) hj
 ·refine Ev.neg (by rw [e101]; exact h1) ?_
  rw [n69]
  by_cases h2 : (bl s).getD 0 0 = 69
  ·rw [if_pos (.inr h2), decide_eq_false (fun h => h h2)]
   exact hj
  ·rw [if_neg (by rintro (h | h); exact h1 h; exact h2 h), decide_eq_true h2]
   exact Ev.one fun k => by rw [aA.j0, if_pos rfl]
def toA (l : List UInt8) : List Nat := l.map UInt8.toNat
theorem IG (l : List UInt8) : bl (strOfNums (toI (toA l))) = l := by
 unfold bl
 rw [strOfNums_data]
 unfold toI toA
 rw [List.map_map, List.map_map]
 conv => rhs; rw [← List.map_id l]
 apply List.map_congr_left
 intro c _
 simp
theorem ED (l : List UInt8) (c : UInt8) : toI (toA l) ++ [((c.toNat : Nat) : Int)] = toI (toA (l ++ [c])) := by unfold toA; rw [uU, List.map_append]; rfl
def Pv (r : Bool × ByteArray × ByteArray × Int × Bool) (neg : Bool) (S : List UInt8 × (Bool × Nat × Int) × Bool) : Prop :=
 r.1 = neg ∧ bl r.2.1 = [] ∧ r.2.2.2.2 = S.2.2 ∧ (S.2.2 = true → bl r.2.2.1 = S.1 ∧ r.2.2.2.1 = Jw 1048576 S.2.1)
theorem EF (s : ByteArray) (neg : Bool) (sp : ByteArray) (hsp : bl sp = []) (d0 : ByteArray) (hs : s.size ≤ 1000000) (D : List UInt8) (b : Int) (h1 : -1 ≤ b) (h2 : b ≤ 1000000) {i : Nat} (hi : i ≤ s.size) (S : List UInt8 × (Bool × Nat × Int) × Bool)
  (hS : S = if i = s.size then (D, (false, 0, mx 0 b), decide (D ≠ [])) else if (bl s).getD i 0 = 101 ∨ (bl s).getD i 0 = 69 then (D, ((exV ((bl s).drop (i + 1))).1, (exV ((bl s).drop (i + 1))).2.1, mx 0 b), (exV ((bl s).drop (i + 1))).2.2 && decide (D ≠ [])) else (D, (false, 0, 0), false)) :
  ∃ r, Ev (fun k => aT.j4 k s (toI (toA D)) (i : Int) neg sp d0 (-(mx 0 b))) r ∧ Pv r neg S := by
 have hm := mx0 h1 h2
 have hlen : (toI (toA D)).length = D.length := by rw [bQ]; exact List.length_map _
 by_cases hD : D = []
 ·have c0 : (((toI (toA D)).length : Nat) : Int) = 0 := by rw [hlen, hD]; rfl
  refine ⟨(neg, sp, strOfNums (toI (toA D)), -(mx 0 b), false), Ev.one fun k => by rw [aT.j4, if_pos c0], rfl, hsp, ?_, fun h => ?_⟩
  ·rw [hS]
   split
   ·simp [hD]
   ·split
    ·simp [hD]
    ·rfl
  ·exfalso
   rw [hS] at h
   split at h
   ·simp [hD] at h
   ·split at h
    ·simp [hD] at h
    ·cases h
 ·have hpos := List.length_pos_iff.2 hD
  have c0 : ¬ (((toI (toA D)).length : Nat) : Int) = 0 := by rw [hlen]; omega
  by_cases he : i = s.size
  ·rw [if_pos he] at hS
   refine ⟨(neg, sp, strOfNums (toI (toA D)), -(mx 0 b), true), Ev.one fun k => by rw [aT.j4, if_neg c0, if_pos (by rw [he])], rfl, hsp, ?_, fun _ => ?_⟩
   ·rw [hS]; exact (decide_eq_true hD).symm
   ·rw [hS]
    refine ⟨IG D, ?_⟩
    show -(mx 0 b) = (0 : Int) - mx 0 b
    omega
  ·rw [if_neg he] at hS
   have c1 : ¬ ((i : Int) = (s.size : Int)) := by omega
   have c2 : (0 : Int) ≤ (i : Int) := by omega
   have c3 : (i : Int) ≤ (s.size : Int) := by omega
   have hlt : i < (bl s).length := by rw [gG]; omega
   have hex := Rn (s.extract i s.size) (by rw [lN]; omega) (by rw [lN]; omega)
   rw [lM, List.drop_drop, drop_cons hlt] at hex
   rw [show ((bl s).getD i 0 :: (bl s).drop (i + 1)).getD 0 0 = (bl s).getD i 0 from rfl] at hex
   have head : ∀ k, aT.j4 (k + 1) s (toI (toA D)) (i : Int) neg sp d0 (-(mx 0 b)) = (aA.f k (s.extract i s.size)).bind fun bt114 => (some (neg, sp, strOfNums (toI (toA D)), wrap64 (-(mx 0 b) + bt114.1), bt114.2)) := fun k => by
    rw [aT.j4, if_neg c0, if_neg c1, if_pos c2, if_pos c3, Int.toNat_natCast]
   by_cases h : (bl s).getD i 0 = 101 ∨ (bl s).getD i 0 = 69
   ·rw [if_pos h] at hS hex
    rw [Iy] at hex
    by_cases hv : (exV ((bl s).drop (i + 1))).2.2 = true
    ·rw [if_pos hv] at hex
     refine ⟨_, Ev.step head (Ev.bind hex (Ev.now _)), rfl, hsp, ?_, fun _ => ?_⟩
     ·rw [hS]; simp [hv, hD]
     ·rw [hS]
      refine ⟨IG D, ?_⟩
      have hsr := uw (exV ((bl s).drop (i + 1))).1 (min (exV ((bl s).drop (i + 1))).2.1 1048576) (Nat.le_trans (Nat.min_le_right _ _) (by decide))
      show wrap64 (-(mx 0 b) + zS (exV ((bl s).drop (i + 1))).1 ((min (exV ((bl s).drop (i + 1))).2.1 1048576 : Nat) : Int)) = zS (exV ((bl s).drop (i + 1))).1 ((min (exV ((bl s).drop (i + 1))).2.1 1048576 : Nat) : Int) - mx 0 b
      generalize zS (exV ((bl s).drop (i + 1))).1 ((min (exV ((bl s).drop (i + 1))).2.1 1048576 : Nat) : Int) = z at *
      clear hS hex
      rw [w64 (by omega) (by omega)]
      omega
    ·rw [if_neg hv] at hex
     have hv' : (exV ((bl s).drop (i + 1))).2.2 = false := by simpa using hv
     refine ⟨_, Ev.step head (Ev.bind hex (Ev.now _)), rfl, hsp, ?_, fun hk => ?_⟩
     ·rw [hS]; simp [hv']
     ·rw [hS] at hk; simp [hv'] at hk
   ·rw [if_neg h] at hS hex
    refine ⟨_, Ev.step head (Ev.bind hex (Ev.now _)), rfl, hsp, ?_, fun hk => ?_⟩
    ·rw [hS]
    ·rw [hS] at hk; cases hk
theorem MX (s : ByteArray) (neg : Bool) (sp : ByteArray) (hsp : bl sp = []) (d0 : ByteArray) (hs : s.size ≤ 1000000) : ∀ d i, i + d = s.size → ∀ (D : List UInt8) (b : Int), -1 ≤ b → b ≤ i → D.length ≤ i →
  ∃ r, Ev (fun k => aT.l0 k s (toI (toA D)) (decide (b ≥ 0)) (i : Int) neg sp d0 (-(mx 0 b))) r ∧ Pv r neg (jV ((bl s).drop i) D b) := by
 intro d
 induction d with
 | zero =>
  intro i hi D b h1 h2 h3
  have he : i = s.size := by omega
  have c1 : ¬ ((i : Int) < (s.size : Int)) := by omega
  obtain ⟨r, hr, hrel⟩ := EF s neg sp hsp d0 hs D b h1 (by omega) (i := i) (by omega) _ (by rw [if_pos he])
  rw [List.drop_of_length_le (by rw [gG]; omega)]
  exact ⟨r, Ev.step (f := fun k => aT.j4 k s (toI (toA D)) (i : Int) neg sp d0 (-(mx 0 b))) (fun k => by rw [aT.l0, if_neg c1]) hr, hrel⟩
 | succ d ih =>
  intro i hi D b h1 h2 h3
  have hlt : i < (bl s).length := by rw [gG]; omega
  have hne : i ≠ s.size := by omega
  have c1 : (i : Int) < (s.size : Int) := by omega
  have c2 : (0 : Int) ≤ (i : Int) := by omega
  have c3 : i < 1000000000000000000 := by omega
  have c4 : i + 1 + d = s.size := by omega
  have c5 : (toI (toA D)).length < 140737488355328 := by rw [bQ]; unfold toA; rw [List.length_map]; omega
  have c6 : (D ++ [(bl s).getD i 0]).length ≤ i + 1 := by rw [List.length_append]; simp; omega
  have c7 : b ≤ ((i + 1 : Nat) : Int) := by omega
  have c8 : b + 1 ≤ ((i + 1 : Nat) : Int) := by omega
  have hb6 : b ≤ 1000000 := by omega
  have e46 := b8 ((bl s).getD i 0) 46 (by decide) 46 rfl 46 rfl
  rw [drop_cons hlt]
  unfold jV
  by_cases hD : isD ((bl s).getD i 0) = true
  ·rw [if_pos hD]
   by_cases hb : b ≥ 0
   ·have em : wrap64 (-(mx 0 b) - 1) = -(mx 0 (b + 1)) := by rw [qY, qY, w64 (by omega) (by omega)]; omega
    have hb1 : decide (b + 1 ≥ 0) = true := decide_eq_true (by omega)
    obtain ⟨r, hr, hrel⟩ := ih (i + 1) c4 (D ++ [(bl s).getD i 0]) (b + 1) (by omega) c8 c6
    rw [hb1] at hr
    rw [if_pos hb]
    refine ⟨r, Ev.step (f := fun k => aT.l0 k s (toI (toA (D ++ [(bl s).getD i 0]))) true ((i + 1 : Nat) : Int) neg sp d0 (-(mx 0 (b + 1)))) (fun k => ?_) hr, hrel⟩
    rw [aT.l0, if_pos c1, if_pos c2, kT, lu, pz]
    simp only [Option.bind_some]
    rw [if_pos hD, if_pos c5, if_pos (decide_eq_true hb), decide_eq_true hb, ED, lS c3, em]
   ·obtain ⟨r, hr, hrel⟩ := ih (i + 1) c4 (D ++ [(bl s).getD i 0]) b h1 c7 c6
    rw [if_neg hb]
    have hbf : decide (b ≥ 0) = false := decide_eq_false hb
    rw [hbf] at hr ⊢
    refine ⟨r, Ev.step (f := fun k => aT.l0 k s (toI (toA (D ++ [(bl s).getD i 0]))) false ((i + 1 : Nat) : Int) neg sp d0 (-(mx 0 b))) (fun k => ?_) hr, hrel⟩
    rw [aT.l0, if_pos c1, if_pos c2, kT, lu, pz]
    simp only [Option.bind_some]
    rw [if_pos hD, if_pos c5, if_neg (by decide), ED, lS c3]
  ·rw [if_neg hD]
   have j4 := EF s neg sp hsp d0 hs D b h1 hb6 (i := i) (Nat.le_of_lt (by omega)) _ (by rw [if_neg hne])
   by_cases h46 : (bl s).getD i 0 = 46
   ·by_cases hb : b < 0
    ·rw [if_pos ⟨h46, hb⟩]
     have hb1 : b = -1 := by omega
     have hbf : decide (b ≥ 0) = false := decide_eq_false (by omega)
     have em : mx 0 b = mx 0 0 := by rw [qY, qY]; omega
     obtain ⟨r, hr, hrel⟩ := ih (i + 1) c4 D 0 (by decide) (by omega) (by omega)
     rw [show decide ((0 : Int) ≥ 0) = true from rfl] at hr
     rw [hbf, em]
     refine ⟨r, Ev.step (f := fun k => aT.l0 k s (toI (toA D)) true ((i + 1 : Nat) : Int) neg sp d0 (-(mx 0 0))) (fun k => ?_) hr, hrel⟩
     rw [aT.l0, if_pos c1, if_pos c2, kT, lu, pz]
     simp only [Option.bind_some]
     rw [if_neg hD, if_pos (by rw [e46]; exact h46), if_neg (by decide), lS c3]
    ·rw [if_neg (fun h => hb h.2)]
     have hbt : decide (b ≥ 0) = true := decide_eq_true (by omega)
     obtain ⟨r, hr, hrel⟩ := j4
     rw [hbt]
     refine ⟨r, Ev.step (f := fun k => aT.j4 k s (toI (toA D)) (i : Int) neg sp d0 (-(mx 0 b))) (fun k => ?_) hr, hrel⟩
     rw [aT.l0, if_pos c1, if_pos c2, kT, lu, pz]
     simp only [Option.bind_some]
     rw [if_neg hD, if_pos (by rw [e46]; exact h46), if_pos trivial]
   ·rw [if_neg (fun h => h46 h.1)]
    obtain ⟨r, hr, hrel⟩ := j4
    refine ⟨r, Ev.step (f := fun k => aT.j4 k s (toI (toA D)) (i : Int) neg sp d0 (-(mx 0 b))) (fun k => ?_) hr, hrel⟩
    rw [aT.l0, if_pos c1, if_pos c2, kT, lu, pz]
    simp only [Option.bind_some]
    rw [if_neg hD, if_neg (by rw [e46]; exact h46)]
theorem II (x : Int) (h : ∀ b ∈ Lib.encodeRune x, b.toNat < 128) : (Lib.encodeRune x).length ≤ 1 := by
 unfold Lib.encodeRune at h ⊢
 rw [List.length_map]
 unfold Lib.encodeRuneZ at h ⊢
 split
 ·exact Nat.le_refl _
 ·rename_i h0
  rw [if_neg h0] at h
  split
  ·rename_i h1
   rw [if_pos h1] at h
   have := h (192 + x / 64).toNat.toUInt8 (by simp)
   simp at this
   omega
  ·rename_i h1
   rw [if_neg h1] at h
   split
   ·rename_i h2
    rw [if_pos h2] at h
    have := h (224 + x / 4096).toNat.toUInt8 (by simp)
    simp at this
    omega
   ·rename_i h2
    rw [if_neg h2] at h
    split
    ·rename_i h3
     rw [if_pos h3] at h
     have := h (240 + x / 262144).toNat.toUInt8 (by simp)
     simp at this
     omega
    ·rename_i h3
     rw [if_neg h3] at h
     have := h (239 : Int).toNat.toUInt8 (by simp)
     exact absurd this (by decide)
theorem Px (a : UInt8) (l : List UInt8) (h : (Lib.decodeL (a :: l)).2 ≤ 1) : a.toNat < 128 ∨ (Lib.decodeL (a :: l)).1 = 65533 := by
 have ha : (ByteArray.get! ⟨(a :: l).toArray⟩ (0 + 0)) = a := rfl
 unfold Lib.decodeL Utf8.decode at h ⊢
 simp only [ha] at h ⊢
 by_cases h1 : a.toNat < 128
 ·exact .inl h1
 ·right
  rw [if_neg h1] at h ⊢
  split at h
  ·rename_i h2
   rw [if_pos h2]
   split at h
   ·exact absurd h (show ¬ (2 ≤ 1) by decide)
   ·rename_i h3; rw [if_neg h3]; rfl
  ·rename_i h2
   rw [if_neg h2]
   split at h
   ·rename_i h3
    rw [if_pos h3]
    split at h
    ·exact absurd h (show ¬ (3 ≤ 1) by decide)
    ·rename_i h4; rw [if_neg h4]; rfl
   ·rename_i h3
    rw [if_neg h3]
    split at h
    ·rename_i h4
     rw [if_pos h4]
     split at h
     ·exact absurd h (show ¬ (4 ≤ 1) by decide)
     ·rename_i h5; rw [if_neg h5]; rfl
    ·rename_i h4; rw [if_neg h4]; rfl
theorem IJ (l : List UInt8) : 1 ≤ (Lib.decodeL l).2 := by
 unfold Lib.decodeL Utf8.decode
 simp only []
 repeat' split
 all_goals first | exact (by decide : 1 ≤ 1) | exact (by decide : 1 ≤ 2) | exact (by decide : 1 ≤ 3) | exact (by decide : 1 ≤ 4)
theorem Ro (a : UInt8) (l : List UInt8) : (Lib.decodeL (a :: l)).2 ≤ l.length + 1 := by
 have hs : (⟨(a :: l).toArray⟩ : ByteArray).size = l.length + 1 := by simp [ByteArray.size]
 unfold Lib.decodeL Utf8.decode
 simp only [hs]
 repeat' split
 all_goals (try simp only [Bool.and_eq_true, decide_eq_true_eq] at *)
 all_goals first | omega | (simp only []; omega)
theorem Py : Lib.toLowerU ((65533 : Nat) : Int) = 65533 := by decide +kernel
theorem wJ (n : Nat) (a : UInt8) (l t : List UInt8) (ht : ∀ b ∈ t, b.toNat < 128) (h : Lib.mapGoD Lib.toLowerU (n + 1) (a :: l) = t) (hl : l.length + 1 = t.length) (hrest : ∀ l' : List UInt8, (∀ b ∈ Lib.mapGoD Lib.toLowerU n l', b.toNat < 128) → (Lib.mapGoD Lib.toLowerU n l').length ≤ l'.length) :
  a.toNat < 128 ∧ ∃ t', t' = Lib.mapGoD Lib.toLowerU n l ∧ t'.length = l.length ∧ (∀ b ∈ t', b.toNat < 128) := by
 rw [Lib.mapGoD, if_neg (List.cons_ne_nil a l)] at h
 have hp := IJ (a :: l)
 have hd := Px a l
 have hle := Ro a l
 generalize hD : Lib.decodeL (a :: l) = D at *
 obtain ⟨r, w⟩ := D
 simp only [] at h hp hd hle
 have h1 : ∀ b ∈ (if 0 ≤ Lib.toLowerU (r : Int) then Lib.encodeRune (Lib.toLowerU (r : Int)) else []), b.toNat < 128 := fun b hb => ht b (by rw [← h]; exact List.mem_append_left _ hb)
 have h2 : ∀ b ∈ Lib.mapGoD Lib.toLowerU n ((a :: l).drop w), b.toNat < 128 := fun b hb => ht b (by rw [← h]; exact List.mem_append_right _ hb)
 have h3 := hrest _ h2
 have h4 : (if 0 ≤ Lib.toLowerU (r : Int) then Lib.encodeRune (Lib.toLowerU (r : Int)) else []).length ≤ 1 := by
  split at h1
  ·rename_i h0; rw [if_pos h0]; exact II _ h1
  ·rename_i h0; rw [if_neg h0]; exact Nat.zero_le _
 have h5 := congrArg List.length h
 rw [List.length_append] at h5
 rw [List.length_drop, List.length_cons] at h3
 have hw : w = 1 := by omega
 subst hw
 rw [show (a :: l).drop 1 = l from rfl] at h2 h3 h5
 rcases hd (Nat.le_refl _) with h6 | h6
 ·exact ⟨h6, _, rfl, by omega, h2⟩
 ·exfalso
  rw [h6, Py] at h1
  have := h1 239 (by decide)
  exact absurd this (by decide)
theorem yg (f : Int → Int) : ∀ (n : Nat) (l : List UInt8), (∀ b ∈ Lib.mapGoD f n l, b.toNat < 128) → (Lib.mapGoD f n l).length ≤ l.length
 | 0, l, _ => by simp [Lib.mapGoD]
 | n + 1, l, h => by
  rw [Lib.mapGoD] at h ⊢
  split
  ·simp
  ·rename_i hl
   rw [if_neg hl] at h
   have hp := IJ l
   have ih := yg f n (l.drop (Lib.decodeL l).2) fun b hb => h b (List.mem_append_right _ hb)
   rw [List.length_append]
   rw [List.length_drop] at ih
   have h4 : (if 0 ≤ f ((Lib.decodeL l).1 : Int) then Lib.encodeRune (f ((Lib.decodeL l).1 : Int)) else []).length ≤ 1 := by
    have h1 : ∀ b ∈ (if 0 ≤ f ((Lib.decodeL l).1 : Int) then Lib.encodeRune (f ((Lib.decodeL l).1 : Int)) else []), b.toNat < 128 := fun b hb => h b (List.mem_append_left _ hb)
    split at h1
    ·rename_i h0; rw [if_pos h0]; exact II _ h1
    ·rename_i h0; rw [if_neg h0]; exact Nat.zero_le _
   have := List.length_pos_iff.2 hl
   omega
theorem JB (c : UInt8) : Lib.lowerB c = iG c := by
 unfold Lib.lowerB iG Lib.isUpperB
 have e : (decide (65 ≤ c) && decide (c ≤ 90)) = decide (65 ≤ c.toNat ∧ c.toNat ≤ 90) := by
  rw [Bool.eq_iff_iff]
  simp only [Bool.and_eq_true, decide_eq_true_eq, UInt8.le_iff_toNat_le]
  exact Iff.rfl
 rw [e]
 by_cases h : 65 ≤ c.toNat ∧ c.toNat ≤ 90
 ·rw [if_pos h, if_pos (decide_eq_true h)]
  apply UInt8.toNat_inj.1
  rw [UInt8.toNat_add, UInt8.toNat_ofNat']
  rfl
 ·rw [if_neg h, if_neg (by simpa using h)]
theorem Tv {l t : List UInt8} (hl : l.length = 3) (ht3 : t.length = 3) (ht : ∀ b ∈ t, b.toNat < 128) : Lib.toLowerD l = t ↔ l.map iG = t := by
 have key : (∀ b ∈ l, b.toNat < 128) → Lib.toLowerD l = l.map iG := fun h => by
  rw [Lib.toLowerD_ascii l h]
  unfold Lib.toLowerA
  exact List.map_congr_left fun c _ => JB c
 constructor
 ·intro h
  have hasc : ∀ b ∈ l, b.toNat < 128 := by
   match l, hl with
   | [a, b, c], _ =>
    have h' : Lib.mapGoD Lib.toLowerU 3 [a, b, c] = t := h
    obtain ⟨g1, t1, e1, l1, a1⟩ := wJ 2 a [b, c] t ht h' (by rw [ht3]; rfl) (yg _ 2)
    obtain ⟨g2, t2, e2, l2, a2⟩ := wJ 1 b [c] t1 a1 e1.symm (by rw [l1]; rfl) (yg _ 1)
    obtain ⟨g3, _⟩ := wJ 0 c [] t2 a2 e2.symm (by rw [l2]; rfl) (yg _ 0)
    intro x hx
    simp at hx
    rcases hx with rfl | rfl | rfl
    ·exact g1
    ·exact g2
    ·exact g3
  rw [← key hasc]
  exact h
 ·intro h
  rw [key ?_]
  ·exact h
  ·intro b hb
   have h1 := ht (iG b) (by rw [← h]; exact List.mem_map_of_mem hb)
   unfold iG at h1
   split at h1
   ·omega
   ·exact h1
end Go.Proofs.YtafikkmnkeddpaaGreatDoor.P
namespace Go.Proofs.YtafikkmnkeddpaaGreatDoor.P
open Go.RowKit Go.Proofs.YtafikkmnkeddpaaGreatDoorW.PrintWords Go.Proofs.YtafikkmnkeddpaaGreatDoorW.PrintLast Go.Proofs.YtafikkmnkeddpaaGreatDoorW.PrintMore
def MZ (r : Bool × ByteArray × ByteArray × Int × Bool) (l : List UInt8) : Prop :=
 if (iY l).map iG = uy then r.1 = jr l ∧ bl r.2.1 = uy ∧ r.2.2.2.2 = true
 else if (iY l).map iG = tK then r.1 = jr l ∧ bl r.2.1 = tK ∧ r.2.2.2.2 = true
 else Pv r (jr l) (jV (iY l) [] (-1))
theorem zY (s : ByteArray) (hs : s.size ≤ 1000000) (neg : Bool) : ∃ r, Ev (fun k => aT.j1 k s neg (⟨#[]⟩ : ByteArray) (⟨#[]⟩ : ByteArray) 0) r ∧
    (if (bl s).map iG = uy then r.1 = neg ∧ bl r.2.1 = uy ∧ r.2.2.2.2 = true
     else if (bl s).map iG = tK then r.1 = neg ∧ bl r.2.1 = tK ∧ r.2.2.2.2 = true
     else Pv r neg (jV (bl s) [] (-1))) := by
  obtain ⟨r0, hr0, hrel0⟩ := MX s neg ⟨#[]⟩ rfl ⟨#[]⟩ hs s.size 0 (Nat.zero_add _) [] (-1) (by decide) (by decide) (by decide)
  rw [List.drop_zero] at hrel0
  have hlow : fQ.f s = some ⟨(Lib.toLowerD (bl s)).toArray⟩ := by
    unfold fQ.f
    rw [if_pos (by omega)]
  obtain ⟨t, ht, htb⟩ : ∃ t : ByteArray, fQ.f s = some t ∧ bl t = Lib.toLowerD (bl s) := ⟨_, hlow, by simp [bl]⟩
  have c0 : (0 : Int) ≤ (s.size : Int) := by omega
  have c1 : ((s.size : Int)).toNat ≤ 281474976710656 := by omega
  have hfalse : Ev (fun k => aT.j2 k s t false neg (⟨#[]⟩ : ByteArray) (⟨#[]⟩ : ByteArray) 0) r0 := by
    refine Ev.step (f := fun k => aT.l0 k s (([] : List Int)) false 0 neg (⟨#[]⟩ : ByteArray) (⟨#[]⟩ : ByteArray) 0) (fun k => by rw [aT.j2, if_neg (by decide), if_pos c0, if_pos c1]) ?_
    have e1 : mx 0 (-1) = 0 := by rw [qY]; decide
    rw [e1] at hr0
    exact hr0
  have htrue : Ev (fun k => aT.j2 k s t true neg (⟨#[]⟩ : ByteArray) (⟨#[]⟩ : ByteArray) 0) (neg, t, ⟨#[]⟩, 0, true) := Ev.one fun k => by rw [aT.j2, if_pos rfl]
  by_cases h3 : s.size = 3
  · have c3 : (s.size : Int) = 3 := by omega
    have hl3 : (bl s).length = 3 := by rw [gG]; exact h3
    have li := Tv (t := uy) hl3 rfl (by decide)
    have ln := Tv (t := tK) hl3 rfl (by decide)
    have ei' : (t.toList = ([105, 110, 102] : List UInt8)) = ((bl s).map iG = uy) := by rw [jv, htb]; exact propext li
    have en : (t.toList == ([110, 97, 110] : List UInt8)) = decide ((bl s).map iG = tK) := by
      rw [jv, htb, Bool.eq_iff_iff, beq_iff_eq, decide_eq_true_eq]; exact ln
    by_cases hi : (bl s).map iG = uy
    · refine ⟨(neg, t, ⟨#[]⟩, 0, true), Ev.step (f := fun k => aT.j2 k s t true neg (⟨#[]⟩ : ByteArray) (⟨#[]⟩ : ByteArray) 0) (fun k => ?_) htrue, ?_⟩
      · rw [aT.j1, ht]
        simp only [Option.bind_some]
        rw [if_pos c3, if_pos (by rw [ei']; exact hi)]
      · rw [if_pos hi]
        exact ⟨rfl, by rw [htb]; exact li.2 hi, rfl⟩
    · by_cases hn : (bl s).map iG = tK
      · refine ⟨(neg, t, ⟨#[]⟩, 0, true), Ev.step (f := fun k => aT.j2 k s t true neg (⟨#[]⟩ : ByteArray) (⟨#[]⟩ : ByteArray) 0) (fun k => ?_) htrue, ?_⟩
        · rw [aT.j1, ht]
          simp only [Option.bind_some]
          rw [if_pos c3, if_neg (by rw [ei']; exact hi), en, decide_eq_true hn]
        · rw [if_neg hi, if_pos hn]
          exact ⟨rfl, by rw [htb]; exact ln.2 hn, rfl⟩
      · refine ⟨r0, Ev.step (f := fun k => aT.j2 k s t false neg (⟨#[]⟩ : ByteArray) (⟨#[]⟩ : ByteArray) 0) (fun k => ?_) hfalse, ?_⟩
        · rw [aT.j1, ht]
          simp only [Option.bind_some]
          rw [if_pos c3, if_neg (by rw [ei']; exact hi), en, decide_eq_false hn]
        · rw [if_neg hi, if_neg hn]; exact hrel0
  · have c3 : ¬ (s.size : Int) = 3 := by omega
    have hlen : ((bl s).map iG).length ≠ 3 := by rw [List.length_map, gG]; exact h3
    have hi : ¬ (bl s).map iG = uy := fun h => hlen (by rw [h]; rfl)
    have hn : ¬ (bl s).map iG = tK := fun h => hlen (by rw [h]; rfl)
    refine ⟨r0, Ev.step (f := fun k => aT.j2 k s t false neg (⟨#[]⟩ : ByteArray) (⟨#[]⟩ : ByteArray) 0) (fun k => ?_) hfalse, ?_⟩
    · rw [aT.j1, ht]
      simp only [Option.bind_some]
      rw [if_neg c3]
    · rw [if_neg hi, if_neg hn]; exact hrel0
theorem M_ (s : ByteArray) (hs : s.size ≤ 1000000) : ∃ r, Ev (fun k => aT.f k s) r ∧ MZ r (bl s) := by
 have e0 : bt s 0 = (((bl s).getD 0 0).toNat : Int) := kT s 0
 unfold aT.f MZ iY jr
 by_cases h0 : 0 < s.size
 ·have c0 : ¬ s.toList = ([] : List UInt8) := by rw [oV]; omega
  have c2 : (0 : Int) < (s.size : Int) := by omega
  have c3 : (1 : Int) ≤ (s.size : Int) := by omega
  have e45 := b8 ((bl s).getD 0 0) 45 (by decide) 45 rfl 45 rfl
  have e43 := b8 ((bl s).getD 0 0) 43 (by decide) 43 rfl 43 rfl
  have b45 := zT _ _ _ e45
  have hT := zY (s.extract 1 s.size) (by rw [lN]; omega) (decide ((bl s).getD 0 0 = 45))
  rw [lM] at hT
  obtain ⟨r, hr0, hrel⟩ := hT
  have hr : Ev (fun k => aT.j0 k s true false (⟨#[]⟩ : ByteArray) (⟨#[]⟩ : ByteArray) 0) r := Ev.step (f := fun k => aT.j1 k (s.extract 1 s.size) (decide ((bl s).getD 0 0 = 45)) (⟨#[]⟩ : ByteArray) (⟨#[]⟩ : ByteArray) 0) (fun k => by rw [aT.j0, if_pos rfl, if_pos c2, if_pos c3, e0, b45]) hr0
  by_cases h43 : (bl s).getD 0 0 = 43
  ·rw [if_pos (.inr h43)]
   exact ⟨r, Ev.neg c0 (Ev.pos c2 (Ev.pos (by rw [e0, e43]; exact h43) hr)), hrel⟩
  ·have n43 : ¬ bt s 0 = 43 := by rw [e0, e43]; exact h43
   by_cases h45 : (bl s).getD 0 0 = 45
   ·rw [if_pos (.inl h45)]
    refine ⟨r, Ev.neg c0 (Ev.pos c2 (Ev.neg n43 ?_)), hrel⟩
    rw [e0, b45, decide_eq_true h45]
    exact hr
   ·obtain ⟨r, hr, hrel⟩ := zY s hs false
    rw [if_neg (by rintro (h | h); exact h45 h; exact h43 h), decide_eq_false h45]
    refine ⟨r, Ev.neg c0 (Ev.pos c2 (Ev.neg n43 ?_)), hrel⟩
    rw [e0, b45, decide_eq_false h45]
    exact Ev.step (f := fun k => aT.j1 k s false (⟨#[]⟩ : ByteArray) (⟨#[]⟩ : ByteArray) 0) (fun k => by rw [aT.j0, if_neg (by decide)]) hr
 ·have hb : bl s = [] := List.length_eq_zero_iff.1 (by rw [gG]; omega)
  have c0 : s.toList = ([] : List UInt8) := by rw [jv]; exact hb
  obtain ⟨r, hr, hrel⟩ := zY s hs false
  rw [hb] at hrel ⊢
  exact ⟨r, Ev.pos c0 (Ev.step (f := fun k => aT.j1 k s false (⟨#[]⟩ : ByteArray) (⟨#[]⟩ : ByteArray) 0) (fun k => by rw [aT.j0, if_neg (by decide)]) hr), hrel⟩
theorem EG (c : UInt8) (l : List UInt8) : dK (c :: l) = (c.toNat - 48) * 10 ^ l.length + dK l := by
 have := pY [c] l
 rw [List.singleton_append] at this
 rw [this]
 congr 1
 simp [dK]
theorem zZ : ∀ l : List UInt8, dK (l.dropWhile (· == 48)) = dK l
 | [] => rfl
 | c :: l => by
  rw [List.dropWhile_cons]
  split
  ·rename_i h
   have hc : c = 48 := by simpa using h
   rw [zZ l, EG, hc]
   simp
  ·rfl
theorem Na {l : List UInt8} (hd : rV l) {L : Nat} (hL : (l.dropWhile (· == 48)).length = L + 1) : 10 ^ L ≤ dK l := by
 rw [← zZ]
 have hsub : ∀ c ∈ l.dropWhile (· == 48), 48 ≤ c.toNat ∧ c.toNat ≤ 57 := fun c hc => hd c ((List.dropWhile_sublist _).subset hc)
 match hm : l.dropWhile (· == 48) with
 | [] => rw [hm] at hL; cases hL
 | c :: r =>
  have hh : (c == 48) = false := by
   have := List.head?_dropWhile_not (p := (· == (48 : UInt8))) (l := l)
   rw [hm] at this
   simpa using this
  have hc := hsub c (by rw [hm]; simp)
  have hne : c.toNat ≠ 48 := fun e => by
   have : c = 48 := UInt8.toNat_inj.1 e
   rw [this] at hh
   cases hh
  rw [hm, List.length_cons] at hL
  rw [EG, show r.length = L by omega]
  have : 1 * 10 ^ L ≤ (c.toNat - 48) * 10 ^ L := Nat.mul_le_mul_right _ (by omega)
  omega
theorem Tz {n : Nat} (h : n ≤ 5000) : eX.f (n : Int) = some (wI (10 ^ n)) := by
 have hf := zX n
 unfold eX.f gI.f gY
 rw [Int.toNat_natCast, show (10 : Int).toNat = 10 from rfl, if_pos ⟨by decide, by decide, by omega, by omega, by omega⟩]
 rfl
theorem Um {u v : Nat} (h1 : (toW u).length ≤ 1000) (h2 : (toW v).length ≤ 1000) (h3 : (toW (u * v)).length ≤ 1000) : iE.f (wI u) (wI v) = some (wI (u * v), 0) := by
 unfold iE.f gY
 rw [jU, jU, if_pos ⟨⟨OkI.wI (by omega), OkI.wI (by omega)⟩, by omega, by omega, by omega⟩]
theorem Pz {a : Int} {F : Fm} (h : oU a = some F) {m : Int} (hm : ¬ (m < 0 ∨ 5 < m)) (neg : Bool) {n L : Nat} (hL : L ≤ 2000) (h1 : 10 ^ L ≤ n) (h2 : n < 10 ^ (L + 1)) {x : Int} (hx1 : -3000 ≤ x) (hx2 : x ≤ 600) (hxp : 0 ≤ x → L + x ≤ 600) :
  Ev (fun k => if x < 0 then ((eX.f (wrap64 (-x))).bind fun t258 => ((cO.f k a m neg (wI n) t258 0).bind fun bt261 => (some (bt261.1, bt261.2.1, bt261.2.2)))) else ((eX.f x).bind fun t264 => ((iE.f (wI n) t264).bind fun bt267 => ((cO.f k a m neg bt267.1 (([1] : List Int)) 0).bind fun bt274 => (some (bt274.1, bt274.2.1, bt274.2.2)))))) (((xC F m neg n x).1 : Int), ((xC F m neg n x).2 : Int), 0) := by
 have hn0 : n ≠ 0 := by have := ku L; omega
 have hnl := zW h2
 unfold xC
 by_cases hx : x < 0
 ·refine Ev.pos hx ?_
  obtain ⟨k, hk⟩ : ∃ k : Nat, (k : Int) = -x := ⟨(-x).toNat, by omega⟩
  have e0 : wrap64 (-x) = (k : Int) := by rw [w64 (by omega) (by omega), hk]
  have e1 : x.toNat = 0 := by omega
  have e2 : (-x).toNat = k := by omega
  have ht := zX k
  have hp : 10 ^ k ≠ 0 := by have := ku k; omega
  have hR := BP h hm neg (num := n) (den := 10 ^ k) hn0 hp (by omega) (by omega)
  rw [e0, e1, e2, Nat.pow_zero, Nat.mul_one, Tz (by omega)]
  exact Ev.bs (Ev.bind hR (Ev.now _))
 ·refine Ev.neg hx ?_
  obtain ⟨k, rfl⟩ := Int.eq_ofNat_of_zero_le (show 0 ≤ x by omega)
  have hk := hxp (by omega)
  have e1 : ((k : Nat) : Int).toNat = k := Int.toNat_natCast k
  have e2 : (-((k : Nat) : Int)).toNat = 0 := by omega
  have ht := zX k
  have hprod : n * 10 ^ k < 10 ^ (L + 1 + k) := by rw [Nat.pow_add]; exact Nat.mul_lt_mul_of_pos_right h2 (ku k)
  have hpl := zW hprod
  have hne : n * 10 ^ k ≠ 0 := Nat.mul_ne_zero hn0 (by have := ku k; omega)
  have hR := BP h hm neg (num := n * 10 ^ k) (den := 1) hne (by decide) (by omega) (by rw [lD]; decide)
  rw [Tq] at hR
  rw [e1, e2, Nat.pow_zero, Tz (by omega)]
  refine Ev.bs ?_
  rw [Um (by omega) (by omega) (by omega)]
  exact Ev.bs (Ev.bind hR (Ev.now _))
theorem BQ (a m : Int) (s : ByteArray) : Ev (fun k => gV.f k a m s) (uz a m (bl s)) := by
 unfold gV.f uz
 cases hf : oU a with
 | none =>
  rw [Ey hf]
  exact Ev.bs (Ev.neg (by decide) (Ev.now _))
 | some F =>
  have hF := rX hf
  rw [IB hf]
  refine Ev.bs (Ev.pos rfl ?_)
  simp only []
  by_cases hm : m < 0 ∨ 5 < m
  ·rw [if_pos hm]
   have hg : fF.f m = some false := by
    unfold fF.f
    rcases hm with h | h
    ·rw [if_neg (by omega)]
    ·rw [if_pos (by omega), decide_eq_false (by omega)]
   rw [hg]
   exact Ev.bs (Ev.neg (by decide) (Ev.now _))
  ·rw [if_neg hm]
   have hg : fF.f m = some true := by
    unfold fF.f
    rw [if_pos (by omega), decide_eq_true (by omega)]
   rw [hg]
   refine Ev.bs (Ev.pos rfl ?_)
   by_cases hsz : 2000 < (bl s).length
   ·rw [if_pos hsz]
    exact Ev.pos (by rw [gG] at hsz; omega) (Ev.now _)
   ·rw [if_neg hsz]
    rw [gG] at hsz
    refine Ev.neg (by omega) ?_
    obtain ⟨r, hr, hrel⟩ := M_ s (by omega)
    refine Ev.bind hr ?_
    obtain ⟨r1, r2, r3, r4, r5⟩ := r
    unfold MZ at hrel
    simp only [] at hrel ⊢
    have htrim : fO.f r3 (⟨#[48]⟩ : ByteArray) = some ⟨(Lib.trimLeftB (bl r3) 48).toArray⟩ := by
     unfold fO.f
     rw [if_pos ⟨by decide, by decide⟩]
     rfl
    split at hrel
    ·rename_i hi
     obtain ⟨g1, g2, g3⟩ := hrel
     rw [if_pos hi]
     refine Ev.pos g3 ?_
     rw [htrim]
     refine Ev.bs (Ev.pos (by rw [jv, g2]; rfl) ?_)
     rw [Tm hf, g1]
     exact Ev.bs (Ev.now _)
    ·rename_i hi
     rw [if_neg hi]
     split at hrel
     ·rename_i hn
      obtain ⟨g1, g2, g3⟩ := hrel
      rw [if_pos hn]
      refine Ev.pos g3 ?_
      rw [htrim]
      refine Ev.bs (Ev.neg (by rw [jv, g2]; decide) (Ev.pos (by rw [jv, g2]; rfl) ?_))
      rw [Uk hf]
      exact Ev.bs (Ev.now _)
     ·rename_i hn
      obtain ⟨g1, g2, g3, g4⟩ := hrel
      simp only [] at g1 g2 g3 g4
      rw [if_neg hn]
      by_cases hok : (jV (iY (bl s)) [] (-1)).2.2 = true
      ·obtain ⟨g6, g7⟩ := g4 hok
       have hul : (iY (bl s)).length ≤ s.size := by
        rw [← gG]
        unfold iY
        split
        ·rw [List.length_drop]; omega
        ·exact Nat.le_refl _
       obtain ⟨p1, p2, p3, p4, p5⟩ := pq (iY (bl s)) [] (-1) rfl (by decide)
       have hmx : mx 0 (-1) = 0 := by rw [qY]; decide
       rw [hmx] at p4
       refine Ev.pos (by rw [g3]; exact hok) ?_
       rw [if_pos hok, ← g6] at *
       generalize (jV (iY (bl s)) [] (-1)).2.1 = ex at *
       have p2' : r3.size ≤ (iY (bl s)).length := by rw [← gG]; simpa using p2
       have hsz4 : r3.size ≤ 2000 := by omega
       have hdig := xw p1
       rw [htrim]
       refine Ev.bs (Ev.neg (by rw [jv, g2]; decide) (Ev.neg (by rw [jv, g2]; decide) ?_))
       have htd : dK (Lib.trimLeftB (bl r3) 48) = dK (bl r3) := zZ (bl r3)
       have hsub : (Lib.trimLeftB (bl r3) 48).length ≤ r3.size := by rw [← gG]; exact (List.dropWhile_sublist _).length_le
       have hdt : rV (Lib.trimLeftB (bl r3) 48) := fun c hc => hdig c ((List.dropWhile_sublist _).subset hc)
       have hbl : bl (⟨(Lib.trimLeftB (bl r3) 48).toArray⟩ : ByteArray) = Lib.trimLeftB (bl r3) 48 := by simp [bl]
       have hbig := fun L hL => Na hdig (L := L) hL
       generalize hT : (⟨(Lib.trimLeftB (bl r3) 48).toArray⟩ : ByteArray) = T at *
       rw [← hbl] at htd hsub hdt
       have hTsz : T.size ≤ r3.size := by rw [← gG]; exact hsub
       by_cases hz : dK (bl r3) = 0
       ·rw [if_pos hz]
        have hTe : bl T = [] := by
         rcases Nat.eq_zero_or_pos (bl T).length with h | h
         ·exact List.length_eq_zero_iff.1 h
         ·exfalso
          have := hbig ((bl T).length - 1) (by rw [hbl] at h ⊢; show (Lib.trimLeftB (bl r3) 48).length = _; omega)
          have h10 := ku ((bl T).length - 1)
          omega
        refine Ev.pos (by rw [jv]; exact hTe) ?_
        rw [Tn hf, g1]
        exact Ev.bs (Ev.now _)
       ·rw [if_neg hz]
        have hTp : 0 < T.size := by
         rw [← gG]
         rcases Nat.eq_zero_or_pos (bl T).length with h | h
         ·rw [List.length_eq_zero_iff.1 h] at htd
          exact absurd htd.symm hz
         ·exact h
        obtain ⟨L, hL⟩ : ∃ L, T.size = L + 1 := ⟨T.size - 1, by omega⟩
        have h10 := hbig L (by rw [← hL, ← gG, hbl]; rfl)
        have hup : dK (bl r3) < 10 ^ (L + 1) := by rw [← htd, ← hL, ← gG]; exact qw hdt
        have hfit := zW hup
        refine Ev.neg (by rw [oV]; omega) ?_
        have hfit2 : gY (dK (bl T)) := by rw [htd]; exact Nat.le_trans hfit (by omega)
        have hok4 : Dj T := ⟨hTp, by omega, hdt, hfit2⟩
        have hP : jh.f T = some (wI (dK (bl r3)), 0) := by
         unfold jh.f
         rw [if_pos hok4, ← htd]
        rw [hP]
        refine Ev.bs ?_
        have hul2 : ex.2.2 ≤ 2000 := by omega
        rw [g7, hL]
        have ew : mx (wrap64 ((-400) - ((L + 1 : Nat) : Int))) (mn (Jw 1048576 ex) (wrap64 (400 - ((L + 1 : Nat) : Int)))) = max (-400 - ((L + 1 : Nat) : Int)) (min (Gv ex) (400 - ((L + 1 : Nat) : Int))) := by
         rw [w64 (by omega) (by omega), w64 (by omega) (by omega), qY, Qs]
         exact zV (by decide) ex p3 (by omega) (by omega) (by omega) (by omega)
        rw [ew, g1]
        have hcl := yx hF.small m (jr (bl s)) h10 hup (x := Gv ex) (lo := -400 - ((L + 1 : Nat) : Int)) (hi := 400 - ((L + 1 : Nat) : Int)) (by omega) (by omega)
        rw [← hcl]
        exact Pz hf hm (jr (bl s)) (by omega) h10 hup (by omega) (by omega) (by omega)
      ·rw [if_neg hok]
       exact Ev.neg (by rw [g3]; exact hok) (Ev.now _)
end Go.Proofs.YtafikkmnkeddpaaGreatDoor.P
namespace Go.Proofs.YtafikkmnkeddpaaGreatDoor.P
open Go.RowKit Go.Proofs.YtafikkmnkeddpaaGreatDoorW.PrintWords Go.Proofs.YtafikkmnkeddpaaGreatDoorW.PrintLast Go.Proofs.YtafikkmnkeddpaaGreatDoorW.PrintMore
theorem JC : uz 3 0 (bl (⟨#[48, 46, 49]⟩ : ByteArray)) = (4591870180066957722, 16, 0) := by decide +kernel
theorem JD : dn.f 0 13653 = some 0 := by decide +kernel
theorem Nb (k : Nat) : bM.f (k + 3) 0 13653 = some (false, 1365, -12, 2, (⟨#[]⟩ : ByteArray)) := by kernel_rfl
theorem Ev.far {α : Type} {g : Nat → Option α} {r : α} (c : Nat) (h : ∀ k, g (k + c) = some r) : Ev g r := ⟨c, fun k hk => by have := h (k - c); rwa [Nat.sub_add_cancel hk] at this⟩
theorem JE : fK.f false 1365 (-12) 2 = some ((⟨#[51, 51, 51, 51]⟩ : ByteArray), -1) := by decide +kernel
theorem GH : iy.f (⟨#[51, 51, 51, 51]⟩ : ByteArray) (-1) = some (⟨#[48, 46, 51, 51, 51, 51]⟩ : ByteArray) := by decide +kernel
theorem PD : (⟨#[]⟩ : ByteArray) ++ (⟨#[48, 46, 51, 51, 51, 51]⟩ : ByteArray) = (⟨#[48, 46, 51, 51, 51, 51]⟩ : ByteArray) := by decide +kernel
theorem Dx : Ev (fun k => bV.f k 0 13653) ((⟨#[48, 46, 51, 51, 51, 51]⟩ : ByteArray), 0) := by
 unfold bV.f
 rw [JD]
 refine Ev.bs (Ev.pos rfl ?_)
 refine Ev.bind (Ev.far 3 Nb) (Ev.pos (by rw [oV]; rfl) ?_)
 simp only []
 rw [JE]
 refine Ev.bs (Ev.pos (by decide) ?_)
 refine Ev.step (f := fun _ => some ((⟨#[48, 46, 51, 51, 51, 51]⟩ : ByteArray), 0)) (fun k => ?_) (Ev.now _)
 rw [bV.j0, if_pos (by decide)]
 rw [show eu.f false 1365 (-12) 2 = some (⟨#[]⟩ : ByteArray) from rfl]
 simp only [Option.bind_some]
 rw [GH]
 simp only [Option.bind_some]
 rw [if_pos (by decide), PD]
theorem Nc : Ev (fun k => dW.f k) true := by
 have hp := BQ 3 0 (⟨#[48, 46, 49]⟩ : ByteArray)
 rw [JC] at hp
 unfold dW.f
 refine Ev.bind hp (Ev.bind Dx ?_)
 refine Ev.pos rfl (Ev.pos rfl (Ev.pos rfl (Ev.pos ?_ ?_)))
 ·rw [jv]
 ·exact Ev.now _
theorem xI (a m : Int) (s : ByteArray) : ∃ k, dA.f k a m s = some true := by
 have h : Ev (fun k => dA.f k a m s) true := by
  unfold dA.f
  refine Ev.bind (BQ a m s) (Ev.bind (Jy a m s) (Ev.bind Nc (Ev.pos rfl (Ev.pos rfl (Ev.pos rfl ?_)))))
  rw [show ((uz a m (bl s)).2.2 == (uz a m (bl s)).2.2) = true from beq_self_eq_true _]
  exact Ev.now _
 exact h.rounds
end Go.Proofs.YtafikkmnkeddpaaGreatDoor.P
set_option maxRecDepth 100000
namespace Go.Proofs.YtafikkmnkeddpaaGreatDoor.P
open Go.RowKit Go.Proofs.YtafikkmnkeddpaaGreatDoorW.PrintWords Go.Proofs.YtafikkmnkeddpaaGreatDoorW.PrintLast Go.Proofs.YtafikkmnkeddpaaGreatDoorW.PrintMore Go.Proofs.YtafikkmnkeddpaaGreatDoor.E Go.Proofs.Tryz
def tys : List (TypeId × TI) := [(3, .int .i64), (4, .bool), (5, .int .u8), (9, .str), (22, .int .u64), (61, .int .u64), (64, .sl 5 .u8 1), (73, .sl 22 .u64 8), (88, .st [.v (.int .i64 0), .v (.int .i64 0), .v (.int .i64 0), .v (.int .i64 0)] [(0, 1, false), (1, 1, false), (2, 1, false), (3, 1, false)]), (93, .st [.v (.bool false), .v (.string (⟨#[]⟩ : ByteArray)), .v (.string (⟨#[]⟩ : ByteArray)), .v (.int .i64 0)] [(0, 1, false), (1, 1, false), (2, 1, false), (3, 1, false)]), (104, .st [.v (.bool false), .v (.bool false), .v (.bool false), .v (.string (⟨#[]⟩ : ByteArray)), .v (.int .i64 0)] [(0, 1, false), (1, 1, false), (2, 1, false), (3, 1, false), (4, 1, false)]), (111, .st [.v (.bool false), .s .u64, .s .u64, .v (.int .i64 0)] [(0, 1, false), (1, 1, false), (2, 1, false), (3, 1, false)]), (118, .st [.v (.bool false), .v (.int .u64 0), .v (.int .i64 0), .v (.int .u64 0)] [(0, 1, false), (1, 1, false), (2, 1, false), (3, 1, false)]), (197, .st [.v (.bool false), .s .u64, .v (.int .i64 0), .v (.bool false)] [(0, 1, false), (1, 1, false), (2, 1, false), (3, 1, false)]), (201, .st [.v (.int .i64 0), .v (.int .i64 0), .v (.int .i64 0), .v (.int .i64 0)] [(0, 1, false), (1, 1, false), (2, 1, false), (3, 1, false)])]
theorem ty3 : nI prog 3 (match lk 3 tys with | some i => i | none => .bool) := ⟨by kernel_rfl, by kernel_rfl⟩
theorem ty4 : nI prog 4 (match lk 4 tys with | some i => i | none => .bool) := ⟨by kernel_rfl, by kernel_rfl⟩
theorem ty5 : nI prog 5 (match lk 5 tys with | some i => i | none => .bool) := ⟨by kernel_rfl, by kernel_rfl⟩
theorem ty9 : nI prog 9 (match lk 9 tys with | some i => i | none => .bool) := ⟨by kernel_rfl, by kernel_rfl⟩
theorem TY : nI prog 22 (match lk 22 tys with | some i => i | none => .bool) := ⟨by kernel_rfl, by kernel_rfl⟩
theorem T_ : nI prog 61 (match lk 61 tys with | some i => i | none => .bool) := ⟨by kernel_rfl, by kernel_rfl⟩
theorem Ua : nI prog 64 (match lk 64 tys with | some i => i | none => .bool) := ⟨by kernel_rfl, by kernel_rfl, by kernel_rfl, by kernel_rfl, by decide⟩
theorem Qy : nI prog 73 (match lk 73 tys with | some i => i | none => .bool) := ⟨by kernel_rfl, by kernel_rfl, by kernel_rfl, by kernel_rfl, by decide⟩
theorem JU : nI prog 88 (match lk 88 tys with | some i => i | none => .bool) := ⟨_, underlying88, by kernel_rfl, by kernel_rfl⟩
theorem Ub : nI prog 93 (match lk 93 tys with | some i => i | none => .bool) := ⟨_, underlying93, by kernel_rfl, by kernel_rfl⟩
theorem RZ : nI prog 104 (match lk 104 tys with | some i => i | none => .bool) := ⟨_, underlying104, by kernel_rfl, by kernel_rfl⟩
theorem R_ : nI prog 111 (match lk 111 tys with | some i => i | none => .bool) := ⟨_, underlying111, by kernel_rfl, by kernel_rfl⟩
theorem Si : nI prog 118 (match lk 118 tys with | some i => i | none => .bool) := ⟨_, underlying118, by kernel_rfl, by kernel_rfl⟩
theorem Sj : nI prog 197 (match lk 197 tys with | some i => i | none => .bool) := ⟨_, underlying197, by kernel_rfl, by kernel_rfl⟩
theorem Sm : nI prog 201 (match lk 201 tys with | some i => i | none => .bool) := ⟨_, underlying201, by kernel_rfl, by kernel_rfl⟩
theorem fG : jH prog tys := And.intro ty3 <| And.intro ty4 <| And.intro ty5 <| And.intro ty9 <| And.intro TY <| And.intro T_ <| And.intro Ua <| And.intro Qy <| And.intro JU <| And.intro Ub <| And.intro RZ <| And.intro R_ <| And.intro Si <| And.intro Sj <| And.intro Sm <| trivial
theorem stays : oC GOk := ⟨fun w w' h hb => h.below hb⟩
theorem mixed : prog.follows .mixedOrders = true := by kernel_rfl
abbrev AO := jw prog GOk
abbrev FO := zk prog GOk
def jh.app : List AV → (AV → Option AV) → Option AV := fun l K => match l with
 | [.v (.string z0)] => (jh.f z0).bind fun r => K (.tup [.ro true .u64 r.1, .v (.int .i64 r.2)])
 | _ => none
theorem jh.ok : jw prog GOk 37 jh.app := ⟨⟨f37, func37, by kernel_rfl, by kernel_rfl⟩, fun l args w O K r hG hO hl h => by
 unfold jh.app at h
 split at h
 ·rename_i z0
  obtain ⟨y, hy, hK⟩ := Option.bind_eq_some_iff.1 h
  obtain ⟨v0, us0, rfl, h0, hl0⟩ := dO hl
  obtain rfl := iU h0
  obtain rfl := iH hl0
  refine ⟨_, hK, (jh.calls z0 y.1 y.2 w hy).mono ?_⟩
  rintro e w' ⟨v0_, rfl, hR0, hb⟩
  exact ⟨_, rfl, (.tup _ _ (.cons _ _ _ _ (kV hR0 hO) (.cons _ _ _ _ (.v _) .nil))), hb⟩
 ·cases h⟩
def bU.app : List AV → (AV → Option AV) → Option AV := fun l K => match l with
 | [.v (.int .i64 z0)] => (bU.f z0).bind fun r => K (.tup [.agg [.v (.int .i64 r.1), .v (.int .i64 r.2.1), .v (.int .i64 r.2.2.1), .v (.int .i64 r.2.2.2.1)], .v (.int .i64 r.2.2.2.2)])
 | _ => none
theorem bU.ok : jw prog GOk 52 bU.app := ⟨⟨f52, func52, by kernel_rfl, by kernel_rfl⟩, fun l args w O K r hG hO hl h => by
 unfold bU.app at h
 split at h
 ·rename_i z0
  obtain ⟨y, hy, hK⟩ := Option.bind_eq_some_iff.1 h
  obtain ⟨v0, us0, rfl, h0, hl0⟩ := dO hl
  obtain rfl := iU h0
  obtain rfl := iH hl0
  refine ⟨_, hK, (bU.calls z0 y.1 y.2.1 y.2.2.1 y.2.2.2.1 y.2.2.2.2 w hG hy).mono ?_⟩
  rintro e w' ⟨rfl, hb⟩
  exact ⟨_, rfl, (.tup _ _ (.cons _ _ _ _ (.agg _ _ (.cons _ _ _ _ (.v _) (.cons _ _ _ _ (.v _) (.cons _ _ _ _ (.v _) (.cons _ _ _ _ (.v _) .nil))))) (.cons _ _ _ _ (.v _) .nil))), hb⟩
 ·cases h⟩
def fQ.app : List AV → (AV → Option AV) → Option AV := fun l K => match l with
 | [.v (.string z0)] => (fQ.f z0).bind fun r => K (.v (.string r))
 | _ => none
theorem fQ.ok : jw prog GOk 128 fQ.app := ⟨⟨f128, func128, by kernel_rfl, by kernel_rfl⟩, fun l args w O K r hG hO hl h => by
 unfold fQ.app at h
 split at h
 ·rename_i z0
  obtain ⟨y, hy, hK⟩ := Option.bind_eq_some_iff.1 h
  obtain ⟨v0, us0, rfl, h0, hl0⟩ := dO hl
  obtain rfl := iU h0
  obtain rfl := iH hl0
  refine ⟨_, hK, (fQ.calls z0 y w hG hy).mono ?_⟩
  rintro e w' ⟨rfl, hb⟩
  exact ⟨_, rfl, (.v _), hb⟩
 ·cases h⟩
def fO.app : List AV → (AV → Option AV) → Option AV := fun l K => match l with
 | [.v (.string z0), .v (.string z1)] => (fO.f z0 z1).bind fun r => K (.v (.string r))
 | _ => none
theorem fO.ok : jw prog GOk 55 fO.app := ⟨⟨f55, func55, by kernel_rfl, by kernel_rfl⟩, fun l args w O K r hG hO hl h => by
 unfold fO.app at h
 split at h
 ·rename_i z0 z1
  obtain ⟨y, hy, hK⟩ := Option.bind_eq_some_iff.1 h
  obtain ⟨v0, us0, rfl, h0, hl0⟩ := dO hl
  obtain rfl := iU h0
  obtain ⟨v1, us1, rfl, h1, hl1⟩ := dO hl0
  obtain rfl := iU h1
  obtain rfl := iH hl1
  refine ⟨_, hK, (fO.calls z0 z1 y w hy).mono ?_⟩
  rintro e w' ⟨rfl, hb⟩
  exact ⟨_, rfl, (.v _), hb.below⟩
 ·cases h⟩
def fA.app : List AV → (AV → Option AV) → Option AV := fun l K => match l with
 | [.v (.int .i64 z0), .v (.bool z1)] => (fA.f z0 z1).bind fun r => K (.tup [.v (.int .u64 r.1), .v (.int .i64 r.2)])
 | _ => none
theorem fA.ok : jw prog GOk 56 fA.app := ⟨⟨f56, func56, by kernel_rfl, by kernel_rfl⟩, fun l args w O K r hG hO hl h => by
 unfold fA.app at h
 split at h
 ·rename_i z0 z1
  obtain ⟨y, hy, hK⟩ := Option.bind_eq_some_iff.1 h
  obtain ⟨v0, us0, rfl, h0, hl0⟩ := dO hl
  obtain rfl := iU h0
  obtain ⟨v1, us1, rfl, h1, hl1⟩ := dO hl0
  obtain rfl := iU h1
  obtain rfl := iH hl1
  refine ⟨_, hK, (fA.calls z0 z1 y.1 y.2 w hG hy).mono ?_⟩
  rintro e w' ⟨rfl, hb⟩
  exact ⟨_, rfl, (.tup _ _ (.cons _ _ _ _ (.v _) (.cons _ _ _ _ (.v _) .nil))), hb⟩
 ·cases h⟩
def je.app : List AV → (AV → Option AV) → Option AV := fun l K => match l with
 | [.v (.int .i64 z0)] => (je.f z0).bind fun r => K (.tup [.v (.int .u64 r.1), .v (.int .i64 r.2)])
 | _ => none
theorem je.ok : jw prog GOk 57 je.app := ⟨⟨f57, func57, by kernel_rfl, by kernel_rfl⟩, fun l args w O K r hG hO hl h => by
 unfold je.app at h
 split at h
 ·rename_i z0
  obtain ⟨y, hy, hK⟩ := Option.bind_eq_some_iff.1 h
  obtain ⟨v0, us0, rfl, h0, hl0⟩ := dO hl
  obtain rfl := iU h0
  obtain rfl := iH hl0
  refine ⟨_, hK, (je.calls z0 y.1 y.2 w hG hy).mono ?_⟩
  rintro e w' ⟨rfl, hb⟩
  exact ⟨_, rfl, (.tup _ _ (.cons _ _ _ _ (.v _) (.cons _ _ _ _ (.v _) .nil))), hb⟩
 ·cases h⟩
def gW.app : List AV → (AV → Option AV) → Option AV := fun l K => match l with
 | [.v (.int .i64 z0), .v (.bool z1)] => (gW.f z0 z1).bind fun r => K (.tup [.v (.int .u64 r.1), .v (.int .i64 r.2)])
 | _ => none
theorem gW.ok : jw prog GOk 58 gW.app := ⟨⟨f58, func58, by kernel_rfl, by kernel_rfl⟩, fun l args w O K r hG hO hl h => by
 unfold gW.app at h
 split at h
 ·rename_i z0 z1
  obtain ⟨y, hy, hK⟩ := Option.bind_eq_some_iff.1 h
  obtain ⟨v0, us0, rfl, h0, hl0⟩ := dO hl
  obtain rfl := iU h0
  obtain ⟨v1, us1, rfl, h1, hl1⟩ := dO hl0
  obtain rfl := iU h1
  obtain rfl := iH hl1
  refine ⟨_, hK, (gW.calls z0 z1 y.1 y.2 w hG hy).mono ?_⟩
  rintro e w' ⟨rfl, hb⟩
  exact ⟨_, rfl, (.tup _ _ (.cons _ _ _ _ (.v _) (.cons _ _ _ _ (.v _) .nil))), hb⟩
 ·cases h⟩
def jl.app : List AV → (AV → Option AV) → Option AV := fun l K => match l with
 | [.ro false .u64 z0] => (jl.f z0).bind fun r => K (.ro true .u64 r)
 | _ => none
theorem jl.ok : jw prog GOk 140 jl.app := ⟨⟨f140, func140, by kernel_rfl, by kernel_rfl⟩, fun l args w O K r hG hO hl h => by
 unfold jl.app at h
 split at h
 ·rename_i z0
  obtain ⟨y, hy, hK⟩ := Option.bind_eq_some_iff.1 h
  obtain ⟨v0, us0, rfl, h0, hl0⟩ := dO hl
  obtain ⟨A0, c0, rfl, hr0, hc0⟩ := jI h0
  obtain rfl := iH hl0
  refine ⟨_, hK, (jl.calls A0 c0 z0 y w hr0 hc0 hy).mono ?_⟩
  rintro e w' ⟨v0_, rfl, hR0, hb⟩
  exact ⟨_, rfl, (kV hR0 hO), hb⟩
 ·cases h⟩
def gK.app : List AV → (AV → Option AV) → Option AV := fun l K => match l with
 | [.ro false .u64 z0, .v (.int .i64 z1)] => (gK.f z0 z1).bind fun r => K (.tup [.ro true .u64 r.1, .v (.int .i64 r.2)])
 | _ => none
theorem gK.ok : jw prog GOk 89 gK.app := ⟨⟨f89, func89, by kernel_rfl, by kernel_rfl⟩, fun l args w O K r hG hO hl h => by
 unfold gK.app at h
 split at h
 ·rename_i z0 z1
  obtain ⟨y, hy, hK⟩ := Option.bind_eq_some_iff.1 h
  obtain ⟨v0, us0, rfl, h0, hl0⟩ := dO hl
  obtain ⟨A0, c0, rfl, hr0, hc0⟩ := jI h0
  obtain ⟨v1, us1, rfl, h1, hl1⟩ := dO hl0
  obtain rfl := iU h1
  obtain rfl := iH hl1
  refine ⟨_, hK, (gK.calls A0 c0 z0 z1 y.1 y.2 w hr0 hc0 hy).mono ?_⟩
  rintro e w' ⟨v0_, rfl, hR0, hb⟩
  exact ⟨_, rfl, (.tup _ _ (.cons _ _ _ _ (kV hR0 hO) (.cons _ _ _ _ (.v _) .nil))), hb⟩
 ·cases h⟩
def iF.app : List AV → (AV → Option AV) → Option AV := fun l K => match l with
 | [.ro false .u64 z0, .ro false .u64 z1] => (iF.f z0 z1).bind fun r => K (.tup [.ro true .u64 r.1, .ro true .u64 r.2.1, .v (.int .i64 r.2.2)])
 | _ => none
theorem iF.ok : jw prog GOk 101 iF.app := ⟨⟨f101, func101, by kernel_rfl, by kernel_rfl⟩, fun l args w O K r hG hO hl h => by
 unfold iF.app at h
 split at h
 ·rename_i z0 z1
  obtain ⟨y, hy, hK⟩ := Option.bind_eq_some_iff.1 h
  obtain ⟨v0, us0, rfl, h0, hl0⟩ := dO hl
  obtain ⟨A0, c0, rfl, hr0, hc0⟩ := jI h0
  obtain ⟨v1, us1, rfl, h1, hl1⟩ := dO hl0
  obtain ⟨A1, c1, rfl, hr1, hc1⟩ := jI h1
  obtain rfl := iH hl1
  refine ⟨_, hK, (iF.calls A0 c0 z0 A1 c1 z1 y.1 y.2.1 y.2.2 w hr0 hc0 hr1 hc1 hy).mono ?_⟩
  rintro e w' ⟨v0_, v1_, rfl, hR0, hR1, hb⟩
  exact ⟨_, rfl, (.tup _ _ (.cons _ _ _ _ (kV hR0 hO) (.cons _ _ _ _ (kV hR1 hO) (.cons _ _ _ _ (.v _) .nil)))), hb⟩
 ·cases h⟩
def iC.app : List AV → (AV → Option AV) → Option AV := fun l K => match l with
 | [.ro false .u64 z0, .ro false .u64 z1] => (iC.f z0 z1).bind fun r => K (.v (.int .i64 r))
 | _ => none
theorem iC.ok : jw prog GOk 103 iC.app := ⟨⟨f103, func103, by kernel_rfl, by kernel_rfl⟩, fun l args w O K r hG hO hl h => by
 unfold iC.app at h
 split at h
 ·rename_i z0 z1
  obtain ⟨y, hy, hK⟩ := Option.bind_eq_some_iff.1 h
  obtain ⟨v0, us0, rfl, h0, hl0⟩ := dO hl
  obtain ⟨A0, c0, rfl, hr0, hc0⟩ := jI h0
  obtain ⟨v1, us1, rfl, h1, hl1⟩ := dO hl0
  obtain ⟨A1, c1, rfl, hr1, hc1⟩ := jI h1
  obtain rfl := iH hl1
  refine ⟨_, hK, (iC.calls A0 c0 z0 A1 c1 z1 y w hr0 hc0 hr1 hc1 hy).mono ?_⟩
  rintro e w' ⟨rfl, hb⟩
  exact ⟨_, rfl, (.v _), hb.below⟩
 ·cases h⟩
def iQ.app : List AV → (AV → Option AV) → Option AV := fun l K => match l with
 | [.ro false .u64 z0, .ro false .u64 z1] => (iQ.f z0 z1).bind fun r => K (.ro true .u64 r)
 | _ => none
theorem iQ.ok : jw prog GOk 104 iQ.app := ⟨⟨f104, func104, by kernel_rfl, by kernel_rfl⟩, fun l args w O K r hG hO hl h => by
 unfold iQ.app at h
 split at h
 ·rename_i z0 z1
  obtain ⟨y, hy, hK⟩ := Option.bind_eq_some_iff.1 h
  obtain ⟨v0, us0, rfl, h0, hl0⟩ := dO hl
  obtain ⟨A0, c0, rfl, hr0, hc0⟩ := jI h0
  obtain ⟨v1, us1, rfl, h1, hl1⟩ := dO hl0
  obtain ⟨A1, c1, rfl, hr1, hc1⟩ := jI h1
  obtain rfl := iH hl1
  refine ⟨_, hK, (iQ.calls A0 c0 z0 A1 c1 z1 y w hr0 hc0 hr1 hc1 hy).mono ?_⟩
  rintro e w' ⟨v0_, rfl, hR0, hb⟩
  exact ⟨_, rfl, (kV hR0 hO), hb⟩
 ·cases h⟩
def jG.app : List AV → (AV → Option AV) → Option AV := fun l K => match l with
 | [.ro false .u64 z0, .ro false .u64 z1] => (jG.f z0 z1).bind fun r => K (.tup [.ro true .u64 r.1, .v (.int .i64 r.2)])
 | _ => none
theorem jG.ok : jw prog GOk 160 jG.app := ⟨⟨f160, func160, by kernel_rfl, by kernel_rfl⟩, fun l args w O K r hG hO hl h => by
 unfold jG.app at h
 split at h
 ·rename_i z0 z1
  obtain ⟨y, hy, hK⟩ := Option.bind_eq_some_iff.1 h
  obtain ⟨v0, us0, rfl, h0, hl0⟩ := dO hl
  obtain ⟨A0, c0, rfl, hr0, hc0⟩ := jI h0
  obtain ⟨v1, us1, rfl, h1, hl1⟩ := dO hl0
  obtain ⟨A1, c1, rfl, hr1, hc1⟩ := jI h1
  obtain rfl := iH hl1
  refine ⟨_, hK, (jG.calls A0 c0 z0 A1 c1 z1 y.1 y.2 w hr0 hc0 hr1 hc1 hy).mono ?_⟩
  rintro e w' ⟨v0_, rfl, hR0, hb⟩
  exact ⟨_, rfl, (.tup _ _ (.cons _ _ _ _ (kV hR0 hO) (.cons _ _ _ _ (.v _) .nil))), hb⟩
 ·cases h⟩
def iD.app : List AV → (AV → Option AV) → Option AV := fun l K => match l with
 | [.ro false .u64 z0] => (iD.f z0).bind fun r => K (.v (.int .i64 r))
 | _ => none
theorem iD.ok : jw prog GOk 182 iD.app := ⟨⟨f182, func182, by kernel_rfl, by kernel_rfl⟩, fun l args w O K r hG hO hl h => by
 unfold iD.app at h
 split at h
 ·rename_i z0
  obtain ⟨y, hy, hK⟩ := Option.bind_eq_some_iff.1 h
  obtain ⟨v0, us0, rfl, h0, hl0⟩ := dO hl
  obtain ⟨A0, c0, rfl, hr0, hc0⟩ := jI h0
  obtain rfl := iH hl0
  refine ⟨_, hK, (iD.calls A0 c0 z0 y w hr0 hc0 hy).mono ?_⟩
  rintro e w' ⟨rfl, hb⟩
  exact ⟨_, rfl, (.v _), hb.below⟩
 ·cases h⟩
def fV.app : List AV → (AV → Option AV) → Option AV := fun l K => match l with
 | [.v (.int .i64 z0), .v (.bool z1)] => (fV.f z0 z1).bind fun r => K (.tup [.v (.int .u64 r.1), .v (.int .i64 r.2)])
 | _ => none
theorem fV.ok : jw prog GOk 248 fV.app := ⟨⟨f248, func248, by kernel_rfl, by kernel_rfl⟩, fun l args w O K r hG hO hl h => by
 unfold fV.app at h
 split at h
 ·rename_i z0 z1
  obtain ⟨y, hy, hK⟩ := Option.bind_eq_some_iff.1 h
  obtain ⟨v0, us0, rfl, h0, hl0⟩ := dO hl
  obtain rfl := iU h0
  obtain ⟨v1, us1, rfl, h1, hl1⟩ := dO hl0
  obtain rfl := iU h1
  obtain rfl := iH hl1
  refine ⟨_, hK, (fV.calls z0 z1 y.1 y.2 w hG hy).mono ?_⟩
  rintro e w' ⟨rfl, hb⟩
  exact ⟨_, rfl, (.tup _ _ (.cons _ _ _ _ (.v _) (.cons _ _ _ _ (.v _) .nil))), hb⟩
 ·cases h⟩
def kC.app : List AV → (AV → Option AV) → Option AV := fun l K => match l with
 | [.ro false .u64 z0, .v (.int .i64 z1)] => (kC.f z0 z1).bind fun r => K (.tup [.ro true .u64 r.1, .v (.int .i64 r.2)])
 | _ => none
theorem kC.ok : jw prog GOk 249 kC.app := ⟨⟨f249, func249, by kernel_rfl, by kernel_rfl⟩, fun l args w O K r hG hO hl h => by
 unfold kC.app at h
 split at h
 ·rename_i z0 z1
  obtain ⟨y, hy, hK⟩ := Option.bind_eq_some_iff.1 h
  obtain ⟨v0, us0, rfl, h0, hl0⟩ := dO hl
  obtain ⟨A0, c0, rfl, hr0, hc0⟩ := jI h0
  obtain ⟨v1, us1, rfl, h1, hl1⟩ := dO hl0
  obtain rfl := iU h1
  obtain rfl := iH hl1
  refine ⟨_, hK, (kC.calls A0 c0 z0 z1 y.1 y.2 w hG hr0 hc0 hy).mono ?_⟩
  rintro e w' ⟨v0_, rfl, hR0, hb⟩
  exact ⟨_, rfl, (.tup _ _ (.cons _ _ _ _ (kV hR0 hO) (.cons _ _ _ _ (.v _) .nil))), hb⟩
 ·cases h⟩
def kD.app : List AV → (AV → Option AV) → Option AV := fun l K => match l with
 | [.ro false .u64 z0, .v (.int .i64 z1)] => (kD.f z0 z1).bind fun r => K (.tup [.ro true .u64 r.1, .v (.int .i64 r.2)])
 | _ => none
theorem kD.ok : jw prog GOk 250 kD.app := ⟨⟨f250, func250, by kernel_rfl, by kernel_rfl⟩, fun l args w O K r hG hO hl h => by
 unfold kD.app at h
 split at h
 ·rename_i z0 z1
  obtain ⟨y, hy, hK⟩ := Option.bind_eq_some_iff.1 h
  obtain ⟨v0, us0, rfl, h0, hl0⟩ := dO hl
  obtain ⟨A0, c0, rfl, hr0, hc0⟩ := jI h0
  obtain ⟨v1, us1, rfl, h1, hl1⟩ := dO hl0
  obtain rfl := iU h1
  obtain rfl := iH hl1
  refine ⟨_, hK, (kD.calls A0 c0 z0 z1 y.1 y.2 w hr0 hc0 hy).mono ?_⟩
  rintro e w' ⟨v0_, rfl, hR0, hb⟩
  exact ⟨_, rfl, (.tup _ _ (.cons _ _ _ _ (kV hR0 hO) (.cons _ _ _ _ (.v _) .nil))), hb⟩
 ·cases h⟩
def gI.app : List AV → (AV → Option AV) → Option AV := fun l K => match l with
 | [.v (.int .u64 z0), .v (.int .i64 z1)] => (gI.f z0 z1).bind fun r => K (.tup [.ro true .u64 r.1, .v (.int .i64 r.2)])
 | _ => none
theorem gI.ok : jw prog GOk 91 gI.app := ⟨⟨f91, func91, by kernel_rfl, by kernel_rfl⟩, fun l args w O K r hG hO hl h => by
 unfold gI.app at h
 split at h
 ·rename_i z0 z1
  obtain ⟨y, hy, hK⟩ := Option.bind_eq_some_iff.1 h
  obtain ⟨v0, us0, rfl, h0, hl0⟩ := dO hl
  obtain rfl := iU h0
  obtain ⟨v1, us1, rfl, h1, hl1⟩ := dO hl0
  obtain rfl := iU h1
  obtain rfl := iH hl1
  refine ⟨_, hK, (gI.calls z0 z1 y.1 y.2 w hy).mono ?_⟩
  rintro e w' ⟨v0_, rfl, hR0, hb⟩
  exact ⟨_, rfl, (.tup _ _ (.cons _ _ _ _ (kV hR0 hO) (.cons _ _ _ _ (.v _) .nil))), hb⟩
 ·cases h⟩
def iE.app : List AV → (AV → Option AV) → Option AV := fun l K => match l with
 | [.ro false .u64 z0, .ro false .u64 z1] => (iE.f z0 z1).bind fun r => K (.tup [.ro true .u64 r.1, .v (.int .i64 r.2)])
 | _ => none
theorem iE.ok : jw prog GOk 61 iE.app := ⟨⟨f61, func61, by kernel_rfl, by kernel_rfl⟩, fun l args w O K r hG hO hl h => by
 unfold iE.app at h
 split at h
 ·rename_i z0 z1
  obtain ⟨y, hy, hK⟩ := Option.bind_eq_some_iff.1 h
  obtain ⟨v0, us0, rfl, h0, hl0⟩ := dO hl
  obtain ⟨A0, c0, rfl, hr0, hc0⟩ := jI h0
  obtain ⟨v1, us1, rfl, h1, hl1⟩ := dO hl0
  obtain ⟨A1, c1, rfl, hr1, hc1⟩ := jI h1
  obtain rfl := iH hl1
  refine ⟨_, hK, (iE.calls A0 c0 z0 A1 c1 z1 y.1 y.2 w hr0 hc0 hr1 hc1 hy).mono ?_⟩
  rintro e w' ⟨v0_, rfl, hR0, hb⟩
  exact ⟨_, rfl, (.tup _ _ (.cons _ _ _ _ (kV hR0 hO) (.cons _ _ _ _ (.v _) .nil))), hb⟩
 ·cases h⟩
def bI.app : List AV → (AV → Option AV) → Option AV := fun l K => match l with
 | [.ro false .u64 z0] => (bI.f z0).bind fun r => K (.ro true .u64 r)
 | _ => none
theorem bI.ok : jw prog GOk 154 bI.app := ⟨⟨f154, func154, by kernel_rfl, by kernel_rfl⟩, fun l args w O K r hG hO hl h => by
 unfold bI.app at h
 split at h
 ·rename_i z0
  obtain ⟨y, hy, hK⟩ := Option.bind_eq_some_iff.1 h
  obtain ⟨v0, us0, rfl, h0, hl0⟩ := dO hl
  obtain ⟨A0, c0, rfl, hr0, hc0⟩ := jI h0
  obtain rfl := iH hl0
  refine ⟨_, hK, (bI.calls A0 c0 z0 y w hr0 hc0 hy).mono ?_⟩
  rintro e w' ⟨v0_, rfl, hR0, hb⟩
  exact ⟨_, rfl, (kV hR0 hO), hb⟩
 ·cases h⟩
def jc.app : List AV → (AV → Option AV) → Option AV := fun l K => match l with
 | [.v (.int .i64 z0), .v (.int .u64 z1)] => (jc.f z0 z1).bind fun r => K (.tup [.v (.int .i64 r.1), .v (.int .i64 r.2)])
 | _ => none
theorem jc.ok : jw prog GOk 117 jc.app := ⟨⟨f117, func117, by kernel_rfl, by kernel_rfl⟩, fun l args w O K r hG hO hl h => by
 unfold jc.app at h
 split at h
 ·rename_i z0 z1
  obtain ⟨y, hy, hK⟩ := Option.bind_eq_some_iff.1 h
  obtain ⟨v0, us0, rfl, h0, hl0⟩ := dO hl
  obtain rfl := iU h0
  obtain ⟨v1, us1, rfl, h1, hl1⟩ := dO hl0
  obtain rfl := iU h1
  obtain rfl := iH hl1
  refine ⟨_, hK, (jc.calls z0 z1 y.1 y.2 w hG hy).mono ?_⟩
  rintro e w' ⟨rfl, hb⟩
  exact ⟨_, rfl, (.tup _ _ (.cons _ _ _ _ (.v _) (.cons _ _ _ _ (.v _) .nil))), hb⟩
 ·cases h⟩
def iR.app : List AV → (AV → Option AV) → Option AV := fun l K => match l with
 | [.v (.int .i64 z0), .v (.int .u64 z1)] => (iR.f z0 z1).bind fun r => K (.tup [.v (.bool r.1), .v (.int .u64 r.2.1), .v (.int .u64 r.2.2.1), .v (.int .i64 r.2.2.2)])
 | _ => none
theorem iR.ok : jw prog GOk 118 iR.app := ⟨⟨f118, func118, by kernel_rfl, by kernel_rfl⟩, fun l args w O K r hG hO hl h => by
 unfold iR.app at h
 split at h
 ·rename_i z0 z1
  obtain ⟨y, hy, hK⟩ := Option.bind_eq_some_iff.1 h
  obtain ⟨v0, us0, rfl, h0, hl0⟩ := dO hl
  obtain rfl := iU h0
  obtain ⟨v1, us1, rfl, h1, hl1⟩ := dO hl0
  obtain rfl := iU h1
  obtain rfl := iH hl1
  refine ⟨_, hK, (iR.calls z0 z1 y.1 y.2.1 y.2.2.1 y.2.2.2 w hG hy).mono ?_⟩
  rintro e w' ⟨rfl, hb⟩
  exact ⟨_, rfl, (.tup _ _ (.cons _ _ _ _ (.v _) (.cons _ _ _ _ (.v _) (.cons _ _ _ _ (.v _) (.cons _ _ _ _ (.v _) .nil))))), hb⟩
 ·cases h⟩
def fK.app : List AV → (AV → Option AV) → Option AV := fun l K => match l with
 | [.agg [.v (.bool z0), .v (.int .u64 z1), .v (.int .i64 z2), .v (.int .u64 z3)]] => (fK.f z0 z1 z2 z3).bind fun r => K (.tup [.v (.string r.1), .v (.int .i64 r.2)])
 | _ => none
theorem fK.ok : jw prog GOk 75 fK.app := ⟨⟨f75, func75, by kernel_rfl, by kernel_rfl⟩, fun l args w O K r hG hO hl h => by
 unfold fK.app at h
 split at h
 ·rename_i z0 z1 z2 z3
  obtain ⟨y, hy, hK⟩ := Option.bind_eq_some_iff.1 h
  obtain ⟨v0, us0, rfl, h0, hl0⟩ := dO hl
  obtain ⟨ws, rfl, hs⟩ := QL h0
  obtain ⟨u0, ws0, rfl, g0, hs0⟩ := dO hs
  obtain rfl := iU g0
  obtain ⟨u1, ws1, rfl, g1, hs1⟩ := dO hs0
  obtain rfl := iU g1
  obtain ⟨u2, ws2, rfl, g2, hs2⟩ := dO hs1
  obtain rfl := iU g2
  obtain ⟨u3, ws3, rfl, g3, hs3⟩ := dO hs2
  obtain rfl := iU g3
  obtain rfl := iH hs3
  obtain rfl := iH hl0
  refine ⟨_, hK, (fK.calls z0 z1 z2 z3 y.1 y.2 w hG hy).mono ?_⟩
  rintro e w' ⟨rfl, hb⟩
  exact ⟨_, rfl, (.tup _ _ (.cons _ _ _ _ (.v _) (.cons _ _ _ _ (.v _) .nil))), hb⟩
 ·cases h⟩
def strings_Repeat.app : List AV → (AV → Option AV) → Option AV := fun l K => match l with
 | [.v (.string z0), .v (.int .i64 z1)] => (strings_Repeat.f z0 z1).bind fun r => K (.v (.string r))
 | _ => none
theorem strings_Repeat.ok : jw prog GOk 92 strings_Repeat.app := ⟨⟨f92, func92, by kernel_rfl, by kernel_rfl⟩, fun l args w O K r hG hO hl h => by
 unfold strings_Repeat.app at h
 split at h
 ·rename_i z0 z1
  obtain ⟨y, hy, hK⟩ := Option.bind_eq_some_iff.1 h
  obtain ⟨v0, us0, rfl, h0, hl0⟩ := dO hl
  obtain rfl := iU h0
  obtain ⟨v1, us1, rfl, h1, hl1⟩ := dO hl0
  obtain rfl := iU h1
  obtain rfl := iH hl1
  refine ⟨_, hK, (strings_Repeat.calls z0 z1 y w hy).mono ?_⟩
  rintro e w' ⟨rfl, hb⟩
  exact ⟨_, rfl, (.v _), hb⟩
 ·cases h⟩
def strconv_Itoa.app : List AV → (AV → Option AV) → Option AV := fun l K => match l with
 | [.v (.int .i64 z0)] => (strconv_Itoa.f z0).bind fun r => K (.v (.string r))
 | _ => none
theorem strconv_Itoa.ok : jw prog GOk 120 strconv_Itoa.app := ⟨⟨f120, func120, by kernel_rfl, by kernel_rfl⟩, fun l args w O K r hG hO hl h => by
 unfold strconv_Itoa.app at h
 split at h
 ·rename_i z0
  obtain ⟨y, hy, hK⟩ := Option.bind_eq_some_iff.1 h
  obtain ⟨v0, us0, rfl, h0, hl0⟩ := dO hl
  obtain rfl := iU h0
  obtain rfl := iH hl0
  refine ⟨_, hK, (strconv_Itoa.calls z0 y w hG hy).mono ?_⟩
  rintro e w' ⟨rfl, hb⟩
  exact ⟨_, rfl, (.v _), hb⟩
 ·cases h⟩
end Go.Proofs.YtafikkmnkeddpaaGreatDoor.P
set_option maxRecDepth 100000
namespace Go.Proofs.YtafikkmnkeddpaaGreatDoor.P
open Go.RowKit Go.Proofs.YtafikkmnkeddpaaGreatDoorW.PrintWords Go.Proofs.YtafikkmnkeddpaaGreatDoorW.PrintLast Go.Proofs.YtafikkmnkeddpaaGreatDoorW.PrintMore Go.Proofs.YtafikkmnkeddpaaGreatDoor.E Go.Proofs.Tryz
def fF.enc (r : Bool) : AV := .v (.bool r)
def fF.app : List AV → (AV → Option AV) → Option AV := fun l K => match l with
 | [.v (.int .i64 a)] => (fF.f a).bind fun r => K (fF.enc r)
 | _ => none
def fF.E : Env := ⟨9, tys, [], [], [], false, [4], false⟩
theorem fF.fok : FO 53 f53 (bW f53) (fF.E) := fo fG func53 trivial
theorem fF.ok : AO 53 (fF.app) := dZ stays mixed (fF.fok) (dY rfl) fun l K r h => by
 dsimp only [fF.app] at h
 split at h
 ·rename_i a
  exact fin (enc := fF.enc) h rfl fun y h => by
   simp only [fF.f] at h
   exact via (if (decide (a ≥ 0)) = true then (some (.v (.bool (decide (a ≤ 5))))) else (some (.v (.bool false)))) (tc h)
 ·cases h
def fJ.enc (r : Bool) : AV := .v (.bool r)
def fJ.app : List AV → (AV → Option AV) → Option AV := fun l K => match l with
 | [.v (.int .u8 a)] => (fJ.f a).bind fun r => K (fJ.enc r)
 | _ => none
def fJ.E : Env := ⟨9, tys, [], [], [], false, [4], false⟩
theorem fJ.fok : FO 129 f129 (bW f129) (fJ.E) := fo fG func129 trivial
theorem fJ.ok : AO 129 (fJ.app) := dZ stays mixed (fJ.fok) (dY rfl) fun l K r h => by
 dsimp only [fJ.app] at h
 split at h
 ·rename_i a
  exact fin (enc := fJ.enc) h rfl fun y h => by
   simp only [fJ.f] at h
   exact via (if (decide (a ≥ 48)) = true then (some (.v (.bool (decide (a ≤ 57))))) else (some (.v (.bool false)))) (tc h)
 ·cases h
def aA.enc (r : Int × Bool) : AV := .tup [.v (.int .i64 r.1), .v (.bool r.2)]
def aA.app (k : Nat) : List AV → (AV → Option AV) → Option AV := fun l K => match l with
 | [.v (.string a)] => (aA.f k a).bind fun r => K (aA.enc r)
 | _ => none
def aA.p0 (k : Nat) : Pt := ⟨[.c [1, 1, 1, 1, 0, 0], .c [1, 1, 1, 1, 0, 1], .c [1, 1, 1, 1, 1]], [(0, none, []), (2, none, []), (4, none, [])], [], [], [], fun s => match s with
 | ⟨[(0, .v (.string a)), (2, .v (.int .i64 b)), (4, .v (.bool c))], []⟩ => (aA.j1 k a b c).map aA.enc
 | _ => none⟩
def aA.p1 (k : Nat) : Pt := ⟨[.c [1, 1, 1, 1, 1, 0, 0], .c [1, 1, 1, 1, 1, 0, 1], .c [1, 1, 1, 1, 1, 1]], [(0, none, []), (2, none, []), (4, none, [])], [], [], [], fun s => match s with
 | ⟨[(0, .v (.string a)), (2, .v (.int .i64 b)), (4, .v (.bool c))], []⟩ => (aA.j3 k a b c).map aA.enc
 | _ => none⟩
def aA.p2 (k : Nat) : Pt := ⟨[.c [1, 1, 1, 1, 1, 1, 0, 1, 0, 0, 0], .c [1, 1, 1, 1, 1, 1, 0, 1, 0, 0, 1], .l [1, 1, 1, 1, 1, 1, 0, 1, 0, 0], .b 0, .c [1, 1, 1, 1, 1, 1, 1]], [(0, none, []), (2, none, []), (4, none, []), (38, none, []), (39, none, [])], [], [], [], fun s => match s with
 | ⟨[(0, .v (.string a)), (2, .v (.int .i64 b)), (4, .v (.bool c)), (38, .v (.int .i64 d)), (39, .v (.int .i64 e))], []⟩ => (aA.l0 k a b c d e).map aA.enc
 | _ => none⟩
def aA.p3 (k : Nat) : Pt := ⟨[.c [1, 0, 1], .c [1, 1]], [(0, none, []), (2, none, []), (13, none, [])], [], [], [], fun s => match s with
 | ⟨[(0, .v (.string a)), (2, .v (.int .i64 b)), (13, .v (.bool c))], []⟩ => (aA.j0 k a b c).map aA.enc
 | _ => none⟩
def aA.p4 (k : Nat) : Pt := ⟨[.c [1, 1, 1, 1, 0, 1], .c [1, 1, 1, 1, 1]], [(0, none, []), (2, none, []), (4, none, []), (32, none, [])], [], [], [], fun s => match s with
 | ⟨[(0, .v (.string a)), (2, .v (.int .i64 b)), (4, .v (.bool c)), (32, .v (.bool d))], []⟩ => (aA.j2 k a b c d).map aA.enc
 | _ => none⟩
def aA.E (k : Nat) : Env := ⟨61, tys, [(129, fJ.app)], [(5, aA.p0 k), (7, aA.p1 k), (10, aA.p2 k), (100013, aA.p3 k), (100032, aA.p4 k)], [], false, [3, 4], false⟩
theorem aA.fok (k : Nat) : FO 130 f130 (bW f130) (aA.E k) := fo fG func130 ⟨fJ.ok, trivial⟩
theorem aA.s0 : jd f130 aA.E aA.p0 := fun k s r h => by
 dsimp only [aA.p0] at h
 split at h
 ·rename_i a b c
  rcases k with _ | k
  ·cases h
  simp only [aA.j1] at h
  exact ⟨k, rfl, via (if c = false then (if (a.toList != (⟨#[]⟩ : ByteArray).toList) = true then (if (0 : Int) ≤ 0 then (if (0 : Int) < (a.size : Int) then ((aA.j2 k a b c ((bt a 0) == 43)).map aA.enc) else (none)) else (none)) else ((aA.j2 k a b c false).map aA.enc)) else ((aA.j2 k a b c true).map aA.enc)) (tc h)⟩
 ·cases h
theorem aA.s1 : jd f130 aA.E aA.p1 := fun k s r h => by
 dsimp only [aA.p1] at h
 split at h
 ·rename_i a b c
  rcases k with _ | k
  ·cases h
  simp only [aA.j3] at h
  exact ⟨k, rfl, via (if (a.toList == (⟨#[]⟩ : ByteArray).toList) = true then (some (.tup [.v (.int .i64 0), .v (.bool false)])) else ((aA.l0 k a b c (a.size : Int) 0).map aA.enc)) (tc h)⟩
 ·cases h
theorem aA.s2 : jd f130 aA.E aA.p2 := fun k s r h => by
 dsimp only [aA.p2] at h
 split at h
 ·rename_i a b c d e
  rcases k with _ | k
  ·cases h
  simp only [aA.l0] at h
  exact ⟨k, rfl, via (if (decide (e < d)) = true then (if (0 : Int) ≤ e then (if (e : Int) < (a.size : Int) then ((fJ.f (bt a e)).bind fun f => (if (!f) = true then (some (.tup [.v (.int .i64 0), .v (.bool false)])) else (if (0 : Int) ≤ e then (if (e : Int) < (a.size : Int) then ((aA.l0 k a (mn (wrap64 ((wrap64 (10 * b)) + (wrap64 (((bt a e) - 48) % 256)))) 1048576) c d (wrap64 (e + 1))).map aA.enc) else (none)) else (none)))) else (none)) else (none)) else (if c = true then (some (.tup [.v (.int .i64 (wrap64 (-b))), .v (.bool true)])) else (some (.tup [.v (.int .i64 b), .v (.bool true)])))) (tc h)⟩
 ·cases h
theorem aA.s3 : jd f130 aA.E aA.p3 := fun k s r h => by
 dsimp only [aA.p3] at h
 split at h
 ·rename_i a b c
  rcases k with _ | k
  ·cases h
  simp only [aA.j0] at h
  exact ⟨k, rfl, via (if c = true then (some (.tup [.v (.int .i64 0), .v (.bool false)])) else (if (0 : Int) ≤ 1 then (if (1 : Int) ≤ (a.size : Int) then (if ((a.extract (1 : Int).toNat ((a.size : Int) : Int).toNat).toList != (⟨#[]⟩ : ByteArray).toList) = true then (if (0 : Int) ≤ 0 then (if (0 : Int) < ((a.extract (1 : Int).toNat ((a.size : Int) : Int).toNat).size : Int) then ((aA.j1 k (a.extract (1 : Int).toNat ((a.size : Int) : Int).toNat) b ((bt (a.extract (1 : Int).toNat ((a.size : Int) : Int).toNat) 0) == 45)).map aA.enc) else (none)) else (none)) else ((aA.j1 k (a.extract (1 : Int).toNat ((a.size : Int) : Int).toNat) b false).map aA.enc)) else (none)) else (none))) (tc h)⟩
 ·cases h
theorem aA.s4 : jd f130 aA.E aA.p4 := fun k s r h => by
 dsimp only [aA.p4] at h
 split at h
 ·rename_i a b c d
  rcases k with _ | k
  ·cases h
  simp only [aA.j2] at h
  exact ⟨k, rfl, via (if d = true then (if (0 : Int) ≤ 1 then (if (1 : Int) ≤ (a.size : Int) then ((aA.j3 k (a.extract (1 : Int).toNat ((a.size : Int) : Int).toNat) b c).map aA.enc) else (none)) else (none)) else ((aA.j3 k a b c).map aA.enc)) (tc h)⟩
 ·cases h
theorem aA.pts : ∀ k, iV prog (bW f130) (aA.E k) GOk (Fin prog f130) := iI stays mixed aA.fok [(5, aA.p0), (7, aA.p1), (10, aA.p2), (100013, aA.p3), (100032, aA.p4)] ⟨aA.s0, aA.s1, aA.s2, aA.s3, aA.s4, trivial⟩
theorem aA.ok (k : Nat) : AO 130 (aA.app k) := dZ stays mixed (aA.fok k) (aA.pts k) fun l K r h => by
 dsimp only [aA.app] at h
 split at h
 ·rename_i a
  exact fin (enc := aA.enc) h rfl fun y h => by
   simp only [aA.f] at h
   exact via (if (0 : Int) ≤ 0 then (if (0 : Int) < (a.size : Int) then (if ((bt a 0) != 101) = true then (if (0 : Int) ≤ 0 then (if (0 : Int) < (a.size : Int) then ((aA.j0 k a 0 ((bt a 0) != 69)).map aA.enc) else (none)) else (none)) else ((aA.j0 k a 0 false).map aA.enc)) else (none)) else (none)) (tc h)
 ·cases h
def aT.enc (r : Bool × ByteArray × ByteArray × Int × Bool) : AV := .tup [.agg [.v (.bool r.1), .v (.string r.2.1), .v (.string r.2.2.1), .v (.int .i64 r.2.2.2.1)], .v (.bool r.2.2.2.2)]
def aT.app (k : Nat) : List AV → (AV → Option AV) → Option AV := fun l K => match l with
 | [.v (.string a)] => (aT.f k a).bind fun r => K (aT.enc r)
 | _ => none
def aT.p0 (k : Nat) : Pt := ⟨[.c [1, 0, 1, 0, 0], .c [1, 0, 1, 0, 1], .c [1, 0, 1, 1], .s [1, 0]], [(0, none, [])], [(2, [])], [], [], fun s => match s with
 | ⟨[(0, .v (.string a)), (2, .ptr 2 0)], [(2, .cells [.v (.bool b), .v (.string c), .v (.string d), .v (.int .i64 e)])]⟩ => (aT.j1 k a b c d e).map aT.enc
 | _ => none⟩
def aT.p1 (k : Nat) : Pt := ⟨[.c [1, 0, 1, 1, 1, 1, 1, 1, 0, 0, 0, 0, 0], .c [1, 0, 1, 1, 1, 1, 1, 1, 0, 0, 0, 0, 1], .c [1, 0, 1, 1, 1, 1, 1, 1, 0, 0, 0, 1], .l [1, 0, 1, 1, 1, 1, 1, 1, 0, 0, 0], .b 0, .c [1, 0, 1, 1, 1, 1, 1, 1, 1], .s [1, 0]], [(0, none, []), (6, none, []), (7, none, [])], [(2, [])], [(5, .u8, 5)], [], fun s => match s with
 | ⟨[(0, .v (.string a)), (6, .v (.bool b)), (7, .v (.int .i64 c)), (2, .ptr 2 0), (5, .own 5)], [(2, .cells [.v (.bool d), .v (.string e), .v (.string f), .v (.int .i64 g)]), (5, .ints .u8 5 i)]⟩ => (aT.l0 k a i b c d e f g).map aT.enc
 | _ => none⟩
def aT.p2 (k : Nat) : Pt := ⟨[.c [1, 0, 1, 1, 1, 1, 1, 1, 1, 0], .c [1, 0, 1, 1, 1, 1, 1, 1, 1, 1], .s [1, 0]], [(0, none, []), (7, none, [])], [(2, [])], [(5, .u8, 5)], [], fun s => match s with
 | ⟨[(0, .v (.string a)), (7, .v (.int .i64 b)), (2, .ptr 2 0), (5, .own 5)], [(2, .cells [.v (.bool c), .v (.string d), .v (.string e), .v (.int .i64 f)]), (5, .ints .u8 5 g)]⟩ => (aT.j4 k a g b c d e f).map aT.enc
 | _ => none⟩
def aT.p3 (k : Nat) : Pt := ⟨[.c [1, 0, 0, 1], .c [1, 0, 1], .s [1, 0]], [(0, none, []), (21, none, [])], [(2, [])], [], [], fun s => match s with
 | ⟨[(0, .v (.string a)), (21, .v (.bool b)), (2, .ptr 2 0)], [(2, .cells [.v (.bool c), .v (.string d), .v (.string e), .v (.int .i64 f)])]⟩ => (aT.j0 k a b c d e f).map aT.enc
 | _ => none⟩
def aT.p4 (k : Nat) : Pt := ⟨[.c [1, 0, 1, 0, 1, 1], .c [1, 0, 1, 1], .s [1, 0]], [(0, none, []), (4, none, []), (40, none, [])], [(2, [])], [], [], fun s => match s with
 | ⟨[(0, .v (.string a)), (4, .v (.string b)), (40, .v (.bool c)), (2, .ptr 2 0)], [(2, .cells [.v (.bool d), .v (.string e), .v (.string f), .v (.int .i64 g)])]⟩ => (aT.j2 k a b c d e f g).map aT.enc
 | _ => none⟩
def aT.E (k : Nat) : Env := ⟨101, tys, [(128, fQ.app), (129, fJ.app), (130, aA.app k)], [(4, aT.p0 k), (11, aT.p1 k), (20, aT.p2 k), (100021, aT.p3 k), (100040, aT.p4 k)], [], false, [93, 4], false⟩
theorem aT.fok (k : Nat) : FO 54 f54 (bW f54) (aT.E k) := fo fG func54 ⟨fQ.ok, ⟨fJ.ok, ⟨aA.ok k, trivial⟩⟩⟩
theorem aT.s0 : jd f54 aT.E aT.p0 := fun k s r h => by
 dsimp only [aT.p0] at h
 split at h
 ·rename_i a b c d e
  rcases k with _ | k
  ·cases h
  simp only [aT.j1] at h
  exact ⟨k, rfl, via ((fQ.f a).bind fun f => (if ((a.size : Int) == 3) = true then (if (f.toList == (⟨#[105, 110, 102]⟩ : ByteArray).toList) = false then ((aT.j2 k a f (f.toList == (⟨#[110, 97, 110]⟩ : ByteArray).toList) b c d e).map aT.enc) else ((aT.j2 k a f true b c d e).map aT.enc)) else ((aT.j2 k a f false b c d e).map aT.enc))) (tc h)⟩
 ·cases h
theorem aT.s1 : jd f54 aT.E aT.p1 := fun k s r h => by
 dsimp only [aT.p1] at h
 split at h
 ·rename_i a b c d e f g i
  rcases k with _ | k
  ·cases h
  simp only [aT.l0] at h
  exact ⟨k, rfl, via (if (decide (c < (a.size : Int))) = true then (if (0 : Int) ≤ c then (if (c : Int) < (a.size : Int) then ((fJ.f (bt a c)).bind fun j => (if j = true then (if (i.length + ([bt a c] : List Int).length) * 1 ≤ 140737488355328 then (if b = true then ((aT.l0 k a (i ++ ([bt a c] : List Int)) b (wrap64 (c + 1)) d e f (wrap64 (g - 1))).map aT.enc) else ((aT.l0 k a (i ++ ([bt a c] : List Int)) b (wrap64 (c + 1)) d e f g).map aT.enc)) else (none)) else (if ((bt a c) == 46) = true then (if (!b) = true then ((aT.l0 k a i true (wrap64 (c + 1)) d e f g).map aT.enc) else ((aT.j4 k a i c d e f g).map aT.enc)) else ((aT.j4 k a i c d e f g).map aT.enc)))) else (none)) else (none)) else ((aT.j4 k a i c d e f g).map aT.enc)) (tc h)⟩
 ·cases h
theorem aT.s2 : jd f54 aT.E aT.p2 := fun k s r h => by
 dsimp only [aT.p2] at h
 split at h
 ·rename_i a b c d e f g
  rcases k with _ | k
  ·cases h
  simp only [aT.j4] at h
  exact ⟨k, rfl, via (if ((g.length : Int) == 0) = true then (some (.tup [.agg [.v (.bool c), .v (.string d), .v (.string (strOfNums g)), .v (.int .i64 f)], .v (.bool false)])) else (if (b == (a.size : Int)) = true then (some (.tup [.agg [.v (.bool c), .v (.string d), .v (.string (strOfNums g)), .v (.int .i64 f)], .v (.bool true)])) else (if (0 : Int) ≤ b then (if (b : Int) ≤ (a.size : Int) then ((aA.f k (a.extract (b : Int).toNat ((a.size : Int) : Int).toNat)).bind fun i => (some (.tup [.agg [.v (.bool c), .v (.string d), .v (.string (strOfNums g)), .v (.int .i64 (wrap64 (f + i.1)))], .v (.bool i.2)]))) else (none)) else (none)))) (tc h)⟩
 ·cases h
theorem aT.s3 : jd f54 aT.E aT.p3 := fun k s r h => by
 dsimp only [aT.p3] at h
 split at h
 ·rename_i a b c d e f
  rcases k with _ | k
  ·cases h
  simp only [aT.j0] at h
  exact ⟨k, rfl, via (if b = true then (if (0 : Int) ≤ 0 then (if (0 : Int) < (a.size : Int) then (if (0 : Int) ≤ 1 then (if (1 : Int) ≤ (a.size : Int) then ((aT.j1 k (a.extract (1 : Int).toNat ((a.size : Int) : Int).toNat) ((bt a 0) == 45) d e f).map aT.enc) else (none)) else (none)) else (none)) else (none)) else ((aT.j1 k a c d e f).map aT.enc)) (tc h)⟩
 ·cases h
theorem aT.s4 : jd f54 aT.E aT.p4 := fun k s r h => by
 dsimp only [aT.p4] at h
 split at h
 ·rename_i a b c d e f g
  rcases k with _ | k
  ·cases h
  simp only [aT.j2] at h
  exact ⟨k, rfl, via (if c = true then (some (.tup [.agg [.v (.bool d), .v (.string b), .v (.string f), .v (.int .i64 g)], .v (.bool true)])) else (if (0 : Int) = 0 then (if (0 : Int) ≤ (a.size : Int) then (if ((a.size : Int) : Int).toNat * 1 ≤ 281474976710656 then ((aT.l0 k a ([] : List Int) false 0 d e f g).map aT.enc) else (none)) else (none)) else (none))) (tc h)⟩
 ·cases h
theorem aT.pts : ∀ k, iV prog (bW f54) (aT.E k) GOk (Fin prog f54) := iI stays mixed aT.fok [(4, aT.p0), (11, aT.p1), (20, aT.p2), (100021, aT.p3), (100040, aT.p4)] ⟨aT.s0, aT.s1, aT.s2, aT.s3, aT.s4, trivial⟩
theorem aT.ok (k : Nat) : AO 54 (aT.app k) := dZ stays mixed (aT.fok k) (aT.pts k) fun l K r h => by
 dsimp only [aT.app] at h
 split at h
 ·rename_i a
  exact fin (enc := aT.enc) h rfl fun y h => by
   simp only [aT.f] at h
   exact via (if (a.toList != (⟨#[]⟩ : ByteArray).toList) = true then (if (0 : Int) ≤ 0 then (if (0 : Int) < (a.size : Int) then (if ((bt a 0) == 43) = false then (if (0 : Int) ≤ 0 then (if (0 : Int) < (a.size : Int) then ((aT.j0 k a ((bt a 0) == 45) false (⟨#[]⟩ : ByteArray) (⟨#[]⟩ : ByteArray) 0).map aT.enc) else (none)) else (none)) else ((aT.j0 k a true false (⟨#[]⟩ : ByteArray) (⟨#[]⟩ : ByteArray) 0).map aT.enc)) else (none)) else (none)) else ((aT.j0 k a false false (⟨#[]⟩ : ByteArray) (⟨#[]⟩ : ByteArray) 0).map aT.enc)) (tc h)
 ·cases h
def fE.enc (r : Int) : AV := .v (.int .i64 r)
def fE.app : List AV → (AV → Option AV) → Option AV := fun l K => match l with
 | [.v (.int .i64 a)] => (fE.f a).bind fun r => K (fE.enc r)
 | _ => none
def fE.E : Env := ⟨9, tys, [], [], [], false, [24], false⟩
theorem fE.fok : FO 211 f211 (bW f211) (fE.E) := fo fG func211 trivial
theorem fE.ok : AO 211 (fE.app) := dZ stays mixed (fE.fok) (dY rfl) fun l K r h => by
 dsimp only [fE.app] at h
 split at h
 ·rename_i a
  exact fin (enc := fE.enc) h rfl fun y h => by
   simp only [fE.f] at h
   exact via (if (decide (a < 0)) = false then (if (decide (a > 5)) = true then (some (.v (.int .i64 3))) else (some (.v (.int .i64 0)))) else (some (.v (.int .i64 3)))) (tc h)
 ·cases h
def fZ.enc (r : Int × Int × Int × Int × Int) : AV := .tup [.agg [.v (.int .i64 r.1), .v (.int .i64 r.2.1), .v (.int .i64 r.2.2.1), .v (.int .i64 r.2.2.2.1)], .v (.int .i64 r.2.2.2.2)]
def fZ.app : List AV → (AV → Option AV) → Option AV := fun l K => match l with
 | [.v (.int .i64 a), .v (.int .i64 b)] => (fZ.f a b).bind fun r => K (fZ.enc r)
 | _ => none
def fZ.E : Env := ⟨20, tys, [(52, bU.app), (211, fE.app)], [], [(4, [0, 1, 2, 3, 4])], false, [88, 24], false⟩
theorem fZ.fok : FO 139 f139 (bW f139) (fZ.E) := fo fG func139 ⟨bU.ok, ⟨fE.ok, trivial⟩⟩
theorem fZ.ok : AO 139 (fZ.app) := dZ stays mixed (fZ.fok) (dY rfl) fun l K r h => by
 dsimp only [fZ.app] at h
 split at h
 ·rename_i a b
  exact fin (enc := fZ.enc) h rfl fun y h => by
   simp only [fZ.f] at h
   exact via ((bU.f a).bind fun c => (if (c.2.2.2.2 != 0) = true then (some (.tup [.agg [.v (.int .i64 c.1), .v (.int .i64 c.2.1), .v (.int .i64 c.2.2.1), .v (.int .i64 c.2.2.2.1)], .v (.int .i64 c.2.2.2.2)])) else ((fE.f b).bind fun d => (some (.tup [.agg [.v (.int .i64 c.1), .v (.int .i64 c.2.1), .v (.int .i64 c.2.2.1), .v (.int .i64 c.2.2.2.1)], .v (.int .i64 d)]))))) (tc h)
 ·cases h
def iW.enc (r : Int × Int × Int) : AV := .tup [.v (.int .u64 r.1), .v (.int .i64 r.2.1), .v (.int .i64 r.2.2)]
def iW.app : List AV → (AV → Option AV) → Option AV := fun l K => match l with
 | [.v (.int .i64 a), .v (.bool b)] => (iW.f a b).bind fun r => K (iW.enc r)
 | _ => none
def iW.E : Env := ⟨17, tys, [(58, gW.app)], [], [], false, [22, 23, 24], false⟩
theorem iW.fok : FO 141 f141 (bW f141) (iW.E) := fo fG func141 ⟨gW.ok, trivial⟩
theorem iW.ok : AO 141 (iW.app) := dZ stays mixed (iW.fok) (dY rfl) fun l K r h => by
 dsimp only [iW.app] at h
 split at h
 ·rename_i a b
  exact fin (enc := iW.enc) h rfl fun y h => by
   simp only [iW.f] at h
   exact via ((gW.f a b).bind fun c => (some (.tup [.v (.int .u64 c.1), .v (.int .i64 0), .v (.int .i64 c.2)]))) (tc h)
 ·cases h
def aZ.enc (r : Bool × List Int × Int × Bool) : AV := .agg [.v (.bool r.1), .ro true .u64 r.2.1, .v (.int .i64 r.2.2.1), .v (.bool r.2.2.2)]
def aZ.app (k : Nat) : List AV → (AV → Option AV) → Option AV := fun l K => match l with
 | [.ro false .u64 a, .ro false .u64 b, .v (.int .i64 c)] => (aZ.f k a b c).bind fun r => K (aZ.enc r)
 | _ => none
def aZ.p0 (k : Nat) : Pt := ⟨[.c [1, 1, 1, 1, 1, 0, 0, 0, 0, 0], .c [1, 1, 1, 1, 1, 0, 0, 0, 0, 1], .c [1, 1, 1, 1, 1, 0, 0, 0, 1], .l [1, 1, 1, 1, 1, 0, 0, 0], .b 0, .c [1, 1, 1, 1, 1, 1]], [(1, some .u64, [false]), (2, none, []), (11, some .u64, [])], [(13, [])], [], [6], fun s => match s with
 | ⟨[(1, .ro false .u64 a), (2, .v (.int .i64 b)), (11, .ro true .u64 c), (13, .ptr 13 0), (6, .ptr 6 0)], [(13, .cells [.v (.bool d), .ro true .u64 e, .v (.int .i64 f), .v (.bool g)]), (6, .cells [.top, .top, .top, .top])]⟩ => (aZ.l0 k a b c d e f g).map aZ.enc
 | _ => none⟩
def aZ.p1 (k : Nat) : Pt := ⟨[.c [1, 1, 1, 1, 1, 0, 0, 0, 0, 1], .c [1, 1, 1, 1, 1, 0, 0, 0, 1], .l [1, 1, 1, 1, 1, 0, 0, 0], .b 0, .c [1, 1, 1, 1, 1, 1]], [(1, some .u64, [false]), (2, none, []), (11, some .u64, []), (47, none, [])], [(13, [])], [], [6], fun s => match s with
 | ⟨[(1, .ro false .u64 a), (2, .v (.int .i64 b)), (11, .ro true .u64 c), (47, .v (.bool d)), (13, .ptr 13 0), (6, .ptr 6 0)], [(13, .cells [.v (.bool e), .ro true .u64 f, .v (.int .i64 g), .v (.bool i)]), (6, .cells [.top, .top, .top, .top])]⟩ => (aZ.j1 k a b c d e f g i).map aZ.enc
 | _ => none⟩
def aZ.E (k : Nat) : Env := ⟨81, tys, [(182, iD.app), (89, gK.app), (101, iF.app), (104, iQ.app), (103, iC.app), (160, jG.app)], [(5, aZ.p0 k), (100047, aZ.p1 k)], [], false, [197], false⟩
theorem aZ.fok (k : Nat) : FO 142 f142 (bW f142) (aZ.E k) := fo fG func142 ⟨iD.ok, ⟨gK.ok, ⟨iF.ok, ⟨iQ.ok, ⟨iC.ok, ⟨jG.ok, trivial⟩⟩⟩⟩⟩⟩
theorem aZ.s0 : jd f142 aZ.E aZ.p0 := fun k s r h => by
 dsimp only [aZ.p0] at h
 split at h
 ·rename_i a b c d e f g
  rcases k with _ | k
  ·cases h
  simp only [aZ.l0] at h
  exact ⟨k, rfl, via ((iD.f e).bind fun i => (if (decide (i < b)) = true then ((aZ.j1 k a b c (decide ((c.length : Int) > 0)) d e f g).map aZ.enc) else ((aZ.j1 k a b c false d e f g).map aZ.enc))) (tc h)⟩
 ·cases h
theorem aZ.s1 : jd f142 aZ.E aZ.p1 := fun k s r h => by
 dsimp only [aZ.p1] at h
 split at h
 ·rename_i a b c d e f g i
  rcases k with _ | k
  ·cases h
  simp only [aZ.j1] at h
  exact ⟨k, rfl, via (if d = true then ((iQ.f f f).bind fun j => ((iQ.f c c).bind fun m => ((iC.f m a).bind fun n => (if (decide (n ≥ 0)) = true then ((jG.f m a).bind fun o => ((iQ.f j ([1] : List Int)).bind fun p => ((aZ.l0 k a b o.1 e p (wrap64 (g - 1)) i).map aZ.enc))) else ((aZ.l0 k a b m e j (wrap64 (g - 1)) i).map aZ.enc))))) else (some (.agg [.v (.bool e), .ro true .u64 f, .v (.int .i64 g), .v (.bool (decide ((c.length : Int) > 0)))]))) (tc h)⟩
 ·cases h
theorem aZ.pts : ∀ k, iV prog (bW f142) (aZ.E k) GOk (Fin prog f142) := iI stays mixed aZ.fok [(5, aZ.p0), (100047, aZ.p1)] ⟨aZ.s0, aZ.s1, trivial⟩
theorem aZ.ok (k : Nat) : AO 142 (aZ.app k) := dZ stays mixed (aZ.fok k) (aZ.pts k) fun l K r h => by
 dsimp only [aZ.app] at h
 split at h
 ·rename_i a b c
  exact fin (enc := aZ.enc) h rfl fun y h => by
   simp only [aZ.f] at h
   exact via ((iD.f b).bind fun d => ((iD.f a).bind fun e => ((gK.f a (mx 0 (wrap64 ((wrap64 (d - e)) - 1)))).bind fun f => ((iF.f f.1 b).bind fun g => ((aZ.l0 k b c g.2.1 false g.1 (wrap64 (-(mx 0 (wrap64 ((wrap64 (d - e)) - 1))))) false).map aZ.enc))))) (tc h)
 ·cases h
def fB.enc (r : Int) : AV := .v (.int .i64 r)
def fB.app : List AV → (AV → Option AV) → Option AV := fun l K => match l with
 | [.agg [.v (.bool a), .ro false .u64 b, .v (.int .i64 c), .v (.bool d)]] => (fB.f a b c d).bind fun r => K (fB.enc r)
 | _ => none
def fB.E : Env := ⟨10, tys, [(182, iD.app)], [], [(1, [0, 1, 2, 3, 4, 5, 6, 7])], false, [3], false⟩
theorem fB.fok : FO 212 f212 (bW f212) (fB.E) := fo fG func212 ⟨iD.ok, trivial⟩
theorem fB.ok : AO 212 (fB.app) := dZ stays mixed (fB.fok) (dY rfl) fun l K r h => by
 dsimp only [fB.app] at h
 split at h
 ·rename_i a b c d
  exact fin (enc := fB.enc) h rfl fun y h => by
   simp only [fB.f] at h
   exact via ((iD.f b).bind fun e => (some (.v (.int .i64 (wrap64 ((wrap64 (c + e)) - 1)))))) (tc h)
 ·cases h
def bH.enc (r : Int) : AV := .v (.int .u64 r)
def bH.app (k : Nat) : List AV → (AV → Option AV) → Option AV := fun l K => match l with
 | [.v (.int .i64 a), .v (.int .i64 b), .v (.bool c)] => (bH.f k a b c).bind fun r => K (bH.enc r)
 | _ => none
def bH.p0 (k : Nat) : Pt := ⟨[.c [1, 1, 0, 0], .c [1, 1, 0, 1], .c [1, 1, 1]], [(0, none, []), (2, none, []), (7, none, [])], [], [], [], fun s => match s with
 | ⟨[(0, .v (.int .i64 a)), (2, .v (.bool b)), (7, .v (.bool c))], []⟩ => (bH.j0 k a b c).map bH.enc
 | _ => none⟩
def bH.E (k : Nat) : Env := ⟨48, tys, [(56, fA.app), (248, fV.app)], [(2, bH.p0 k)], [], false, [22], false⟩
theorem bH.fok (k : Nat) : FO 213 f213 (bW f213) (bH.E k) := fo fG func213 ⟨fA.ok, ⟨fV.ok, trivial⟩⟩
theorem bH.s0 : jd f213 bH.E bH.p0 := fun k s r h => by
 dsimp only [bH.p0] at h
 split at h
 ·rename_i a b c
  rcases k with _ | k
  ·cases h
  simp only [bH.j0] at h
  exact ⟨k, rfl, via (if c = true then ((fA.f a b).bind fun d => (some (.v (.int .u64 d.1)))) else ((fV.f a b).bind fun e => (some (.v (.int .u64 e.1))))) (tc h)⟩
 ·cases h
theorem bH.pts : ∀ k, iV prog (bW f213) (bH.E k) GOk (Fin prog f213) := iI stays mixed bH.fok [(2, bH.p0)] ⟨bH.s0, trivial⟩
theorem bH.ok (k : Nat) : AO 213 (bH.app k) := dZ stays mixed (bH.fok k) (bH.pts k) fun l K r h => by
 dsimp only [bH.app] at h
 split at h
 ·rename_i a b c
  exact fin (enc := bH.enc) h rfl fun y h => by
   simp only [bH.f] at h
   exact via (if (b == 0) = false then (if (b == 1) = false then (if (b == 3) = true then (if (!c) = false then (if (b == 4) = true then ((bH.j0 k a c c).map bH.enc) else ((bH.j0 k a c false).map bH.enc)) else ((bH.j0 k a c true).map bH.enc)) else (if (b == 4) = true then ((bH.j0 k a c c).map bH.enc) else ((bH.j0 k a c false).map bH.enc))) else ((bH.j0 k a c true).map bH.enc)) else ((bH.j0 k a c true).map bH.enc)) (tc h)
 ·cases h
def f_.enc (r : Bool) : AV := .v (.bool r)
def f_.app : List AV → (AV → Option AV) → Option AV := fun l K => match l with
 | [.v (.int .i64 a), .v (.bool b), .v (.bool c), .v (.int .u64 d)] => (f_.f a b c d).bind fun r => K (f_.enc r)
 | _ => none
def f_.E : Env := ⟨31, tys, [], [], [], false, [4], false⟩
theorem f_.fok : FO 251 f251 (bW f251) (f_.E) := fo fG func251 trivial
theorem f_.ok : AO 251 (f_.app) := dZ stays mixed (f_.fok) (dY rfl) fun l K r h => by
 dsimp only [f_.app] at h
 split at h
 ·rename_i a b c d
  exact fin (enc := f_.enc) h rfl fun y h => by
   simp only [f_.f] at h
   exact via (if (a == 4) = true then (some (.v (.bool (!(!b))))) else (if (a == 3) = true then (some (.v (.bool (!b)))) else (if (a == 0) = true then (if (d == 2) = true then (some (.v (.bool c))) else (some (.v (.bool (decide (d ≥ 2)))))) else (if (a == 1) = true then (some (.v (.bool (decide (d ≥ 2))))) else (if (a == 5) = true then (some (.v (.bool (!c)))) else (some (.v (.bool false)))))))) (tc h)
 ·cases h
def aC.enc (r : List Int × Bool) : AV := .tup [.ro true .u64 r.1, .v (.bool r.2)]
def aC.app (k : Nat) : List AV → (AV → Option AV) → Option AV := fun l K => match l with
 | [.agg [.v (.bool a), .ro false .u64 b, .v (.int .i64 c), .v (.bool d)], .v (.int .i64 e), .v (.int .i64 f)] => (aC.f k a b c d e f).bind fun r => K (aC.enc r)
 | _ => none
def aC.p0 (k : Nat) : Pt := ⟨[.c [1, 1, 1, 0], .c [1, 1, 1, 1]], [(1, none, []), (8, some .u64, [])], [(3, [false])], [], [], fun s => match s with
 | ⟨[(1, .v (.int .i64 a)), (8, .ro true .u64 b), (3, .ptr 3 0)], [(3, .cells [.v (.bool c), .ro false .u64 d, .v (.int .i64 e), .v (.bool f)])]⟩ => (aC.j0 k a b c d e f).map aC.enc
 | _ => none⟩
def aC.p1 (k : Nat) : Pt := ⟨[.c [1, 1, 1, 1, 1, 0, 0], .c [1, 1, 1, 1, 1, 0, 1], .c [1, 1, 1, 1, 1, 1]], [(1, none, []), (8, some .u64, []), (9, none, [])], [(3, [false])], [], [], fun s => match s with
 | ⟨[(1, .v (.int .i64 a)), (8, .ro true .u64 b), (9, .v (.int .u64 c)), (3, .ptr 3 0)], [(3, .cells [.v (.bool d), .ro false .u64 e, .v (.int .i64 f), .v (.bool g)])]⟩ => (aC.j1 k a b c d e f g).map aC.enc
 | _ => none⟩
def aC.p2 (k : Nat) : Pt := ⟨[.c [1, 1, 1, 1, 1, 1, 0], .c [1, 1, 1, 1, 1, 1, 1]], [(1, none, []), (8, some .u64, []), (9, none, [])], [(3, [false])], [], [], fun s => match s with
 | ⟨[(1, .v (.int .i64 a)), (8, .ro true .u64 b), (9, .v (.int .u64 c)), (3, .ptr 3 0)], [(3, .cells [.v (.bool d), .ro false .u64 e, .v (.int .i64 f), .v (.bool g)])]⟩ => (aC.j2 k a b c d e f g).map aC.enc
 | _ => none⟩
def aC.p3 (k : Nat) : Pt := ⟨[.c [1, 1, 1, 1, 1, 1, 1, 1, 0, 0], .c [1, 1, 1, 1, 1, 1, 1, 1, 0, 1], .c [1, 1, 1, 1, 1, 1, 1, 1, 1]], [(1, none, []), (9, none, []), (10, some .u64, []), (12, none, [])], [(3, [false])], [], [], fun s => match s with
 | ⟨[(1, .v (.int .i64 a)), (9, .v (.int .u64 b)), (10, .ro true .u64 c), (12, .v (.bool d)), (3, .ptr 3 0)], [(3, .cells [.v (.bool e), .ro false .u64 f, .v (.int .i64 g), .v (.bool i)])]⟩ => (aC.j3 k a b c d e f g i).map aC.enc
 | _ => none⟩
def aC.E (k : Nat) : Env := ⟨82, tys, [(249, kC.app), (89, gK.app), (250, kD.app), (251, f_.app), (104, iQ.app)], [(5, aC.p0 k), (8, aC.p1 k), (10, aC.p2 k), (12, aC.p3 k)], [], false, [73, 4], false⟩
theorem aC.fok (k : Nat) : FO 214 f214 (bW f214) (aC.E k) := fo fG func214 ⟨kC.ok, ⟨gK.ok, ⟨kD.ok, ⟨f_.ok, ⟨iQ.ok, trivial⟩⟩⟩⟩⟩
theorem aC.s0 : jd f214 aC.E aC.p0 := fun k s r h => by
 dsimp only [aC.p0] at h
 split at h
 ·rename_i a b c d e f
  rcases k with _ | k
  ·cases h
  simp only [aC.j0] at h
  exact ⟨k, rfl, via (if (decide ((b.length : Int) > 0)) = true then (if (0 : Int) ≤ 0 then (if (0 : Int) < (b.length : Int) then ((aC.j1 k a b (Go.bits .and .u64 (rd b 0) 3) c d e f).map aC.enc) else (none)) else (none)) else ((aC.j1 k a b 0 c d e f).map aC.enc)) (tc h)⟩
 ·cases h
theorem aC.s1 : jd f214 aC.E aC.p1 := fun k s r h => by
 dsimp only [aC.p1] at h
 split at h
 ·rename_i a b c d e f g
  rcases k with _ | k
  ·cases h
  simp only [aC.j1] at h
  exact ⟨k, rfl, via (if g = true then ((aC.j2 k a b (Go.bits .or .u64 c 1) d e f g).map aC.enc) else ((aC.j2 k a b c d e f g).map aC.enc)) (tc h)⟩
 ·cases h
theorem aC.s2 : jd f214 aC.E aC.p2 := fun k s r h => by
 dsimp only [aC.p2] at h
 split at h
 ·rename_i a b c d e f g
  rcases k with _ | k
  ·cases h
  simp only [aC.j2] at h
  exact ⟨k, rfl, via ((kD.f b 2).bind fun i => (if (decide ((i.1.length : Int) > 0)) = true then (if (0 : Int) ≤ 0 then (if (0 : Int) < (i.1.length : Int) then ((aC.j3 k a c i.1 ((Go.bits .and .u64 (rd i.1 0) 1) == 1) d e f g).map aC.enc) else (none)) else (none)) else ((aC.j3 k a c i.1 false d e f g).map aC.enc))) (tc h)⟩
 ·cases h
theorem aC.s3 : jd f214 aC.E aC.p3 := fun k s r h => by
 dsimp only [aC.p3] at h
 split at h
 ·rename_i a b c d e f g i
  rcases k with _ | k
  ·cases h
  simp only [aC.j3] at h
  exact ⟨k, rfl, via (if (b != 0) = true then ((f_.f a e d b).bind fun j => (if j = true then ((iQ.f c ([1] : List Int)).bind fun m => (some (.tup [.ro true .u64 m, .v (.bool (b != 0))]))) else (some (.tup [.ro true .u64 c, .v (.bool (b != 0))])))) else (some (.tup [.ro true .u64 c, .v (.bool (b != 0))]))) (tc h)⟩
 ·cases h
theorem aC.pts : ∀ k, iV prog (bW f214) (aC.E k) GOk (Fin prog f214) := iI stays mixed aC.fok [(5, aC.p0), (8, aC.p1), (10, aC.p2), (12, aC.p3)] ⟨aC.s0, aC.s1, aC.s2, aC.s3, trivial⟩
theorem aC.ok (k : Nat) : AO 214 (aC.app k) := dZ stays mixed (aC.fok k) (aC.pts k) fun l K r h => by
 dsimp only [aC.app] at h
 split at h
 ·rename_i a b c d e f
  exact fin (enc := aC.enc) h rfl fun y h => by
   simp only [aC.f] at h
   exact via (if (decide ((wrap64 (f - c)) ≥ 2)) = true then ((kC.f b (wrap64 ((wrap64 (f - c)) - 2))).bind fun g => ((aC.j0 k e g.1 a b c d).map aC.enc)) else ((gK.f b (wrap64 (2 - (wrap64 (f - c))))).bind fun i => ((aC.j0 k e i.1 a b c d).map aC.enc))) (tc h)
 ·cases h
def dX.enc (r : Bool) : AV := .v (.bool r)
def dX.app (k : Nat) : List AV → (AV → Option AV) → Option AV := fun l K => match l with
 | [.agg [.v (.bool a), .ro false .u64 b, .v (.int .i64 c), .v (.bool d)], .agg [.v (.int .i64 e), .v (.int .i64 f), .v (.int .i64 g), .v (.int .i64 i)], .v (.int .i64 j), .v (.int .i64 m)] => (dX.f k a b c d e f g i j m).bind fun r => K (dX.enc r)
 | _ => none
def dX.E (k : Nat) : Env := ⟨36, tys, [(214, aC.app k), (182, iD.app)], [], [(4, [0, 1, 2, 3, 4, 7, 8, 5, 6, 9, 10])], false, [4], false⟩
theorem dX.fok (k : Nat) : FO 215 f215 (bW f215) (dX.E k) := fo fG func215 ⟨aC.ok k, ⟨iD.ok, trivial⟩⟩
theorem dX.ok (k : Nat) : AO 215 (dX.app k) := dZ stays mixed (dX.fok k) (dY rfl) fun l K r h => by
 dsimp only [dX.app] at h
 split at h
 ·rename_i a b c d e f g i j m
  exact fin (enc := dX.enc) h rfl fun y h => by
   simp only [dX.f] at h
   exact via (if (decide (m ≥ g)) = true then (some (.v (.bool false))) else ((aC.f k a b c d j (wrap64 ((wrap64 (m - f)) + 1))).bind fun n => ((iD.f n.1).bind fun o => (some (.v (.bool (decide ((wrap64 ((wrap64 (m - f)) + o)) < g)))))))) (tc h)
 ·cases h
def aU.enc (r : Int × Int) : AV := .tup [.v (.int .u64 r.1), .v (.int .i64 r.2)]
def aU.app (k : Nat) : List AV → (AV → Option AV) → Option AV := fun l K => match l with
 | [.agg [.v (.bool a), .ro false .u64 b, .v (.int .i64 c), .v (.bool d)], .v (.int .i64 e), .agg [.v (.int .i64 f), .v (.int .i64 g), .v (.int .i64 i), .v (.int .i64 j)], .v (.int .i64 m)] => (aU.f k a b c d e f g i j m).bind fun r => K (aU.enc r)
 | _ => none
def aU.p0 (k : Nat) : Pt := ⟨[.c [1, 1, 1, 1, 1, 1, 1, 1, 0, 0], .c [1, 1, 1, 1, 1, 1, 1, 1, 0, 1], .c [1, 1, 1, 1, 1, 1, 1, 1, 1]], [(1, none, []), (3, none, []), (10, none, []), (12, none, []), (13, some .u64, []), (14, none, []), (15, none, [])], [(4, [false]), (6, [])], [], [], fun s => match s with
 | ⟨[(1, .v (.int .i64 a)), (3, .v (.int .i64 b)), (10, .v (.int .i64 c)), (12, .v (.int .i64 d)), (13, .ro true .u64 e), (14, .v (.bool f)), (15, .v (.int .u64 g)), (4, .ptr 4 0), (6, .ptr 6 0)], [(4, .cells [.v (.bool i), .ro false .u64 j, .v (.int .i64 m), .v (.bool n)]), (6, .cells [.v (.int .i64 o), .v (.int .i64 p), .v (.int .i64 q), .v (.int .i64 t)])]⟩ => (aU.j0 k a b c d e f g i j m n o p q t).map aU.enc
 | _ => none⟩
def aU.p1 (k : Nat) : Pt := ⟨[.c [1, 1, 1, 1, 1, 1, 1, 1, 1, 1, 0, 0], .c [1, 1, 1, 1, 1, 1, 1, 1, 1, 1, 0, 1], .c [1, 1, 1, 1, 1, 1, 1, 1, 1, 1, 1]], [(3, none, []), (10, none, []), (14, none, []), (15, none, [])], [(4, [false]), (6, [])], [], [], fun s => match s with
 | ⟨[(3, .v (.int .i64 a)), (10, .v (.int .i64 b)), (14, .v (.bool c)), (15, .v (.int .u64 d)), (4, .ptr 4 0), (6, .ptr 6 0)], [(4, .cells [.v (.bool e), .ro false .u64 f, .v (.int .i64 g), .v (.bool i)]), (6, .cells [.v (.int .i64 j), .v (.int .i64 m), .v (.int .i64 n), .v (.int .i64 o)])]⟩ => (aU.j1 k a b c d e f g i j m n o).map aU.enc
 | _ => none⟩
def aU.E (k : Nat) : Env := ⟨95, tys, [(212, fB.app), (213, bH.app k), (214, aC.app k), (182, iD.app), (215, dX.app k)], [(10, aU.p0 k), (14, aU.p1 k)], [(10, [0, 1, 5, 6, 2, 3, 4, 7])], false, [22, 23], false⟩
theorem aU.fok (k : Nat) : FO 143 f143 (bW f143) (aU.E k) := fo fG func143 ⟨fB.ok, ⟨bH.ok k, ⟨aC.ok k, ⟨iD.ok, ⟨dX.ok k, trivial⟩⟩⟩⟩⟩
theorem aU.s0 : jd f143 aU.E aU.p0 := fun k s r h => by
 dsimp only [aU.p0] at h
 split at h
 ·rename_i a b c d e f g i j m n o p q t
  rcases k with _ | k
  ·cases h
  simp only [aU.j0] at h
  exact ⟨k, rfl, via ((iD.f e).bind fun u => (if (decide ((wrap64 ((wrap64 (d + u)) - 1)) > t)) = true then ((bH.f k a b i).bind fun v => (some (.tup [.v (.int .u64 v), .v (.int .i64 20)]))) else (if i = true then (if (0 : Int) ≤ wrap64 (o - 1) then ((aU.j1 k b c f (Go.bits .or .u64 g (shl .u64 1 (wrap64 (o - 1)))) i j m n o p q t).map aU.enc) else (none)) else ((aU.j1 k b c f g i j m n o p q t).map aU.enc)))) (tc h)⟩
 ·cases h
theorem aU.s1 : jd f143 aU.E aU.p1 := fun k s r h => by
 dsimp only [aU.p1] at h
 split at h
 ·rename_i a b c d e f g i j m n o
  rcases k with _ | k
  ·cases h
  simp only [aU.j1] at h
  exact ⟨k, rfl, via (if (!c) = true then (some (.tup [.v (.int .u64 d), .v (.int .i64 0)])) else ((dX.f k e f g i j m n o a b).bind fun p => (if p = true then (some (.tup [.v (.int .u64 d), .v (.int .i64 24)])) else (some (.tup [.v (.int .u64 d), .v (.int .i64 16)]))))) (tc h)⟩
 ·cases h
theorem aU.pts : ∀ k, iV prog (bW f143) (aU.E k) GOk (Fin prog f143) := iI stays mixed aU.fok [(10, aU.p0), (14, aU.p1)] ⟨aU.s0, aU.s1, trivial⟩
theorem aU.ok (k : Nat) : AO 143 (aU.app k) := dZ stays mixed (aU.fok k) (aU.pts k) fun l K r h => by
 dsimp only [aU.app] at h
 split at h
 ·rename_i a b c d e f g i j m
  exact fin (enc := aU.enc) h rfl fun y h => by
   simp only [aU.f] at h
   exact via ((fB.f a b c d).bind fun n => (if (decide (n > j)) = true then ((bH.f k e m a).bind fun o => (some (.tup [.v (.int .u64 o), .v (.int .i64 20)]))) else ((aC.f k a b c d m (wrap64 ((wrap64 ((mx n i) - g)) + 1))).bind fun p => (if (0 : Int) ≤ wrap64 (g - 1) then (if (decide ((p.1.length : Int) > 0)) = true then (if (0 : Int) ≤ 0 then (if (0 : Int) < (p.1.length : Int) then ((aU.j0 k e m n (wrap64 ((wrap64 ((mx n i) - g)) + 1)) p.1 p.2 (IntKind.wrap .u64 ((shl .u64 (IntKind.wrap .u64 (wrap64 ((wrap64 ((wrap64 ((mx n i) - g)) + 1)) - (wrap64 ((wrap64 (i - g)) + 1))))) (wrap64 (g - 1))) + (rd p.1 0))) a b c d f g i j).map aU.enc) else (none)) else (none)) else ((aU.j0 k e m n (wrap64 ((wrap64 ((mx n i) - g)) + 1)) p.1 p.2 (shl .u64 (IntKind.wrap .u64 (wrap64 ((wrap64 ((wrap64 ((mx n i) - g)) + 1)) - (wrap64 ((wrap64 (i - g)) + 1))))) (wrap64 (g - 1))) a b c d f g i j).map aU.enc)) else (none))))) (tc h)
 ·cases h
def cO.enc (r : Int × Int × Int) : AV := .tup [.v (.int .u64 r.1), .v (.int .i64 r.2.1), .v (.int .i64 r.2.2)]
def cO.app (k : Nat) : List AV → (AV → Option AV) → Option AV := fun l K => match l with
 | [.v (.int .i64 a), .v (.int .i64 b), .v (.bool c), .ro false .u64 d, .ro false .u64 e, .v (.int .i64 f)] => (cO.f k a b c d e f).bind fun r => K (cO.enc r)
 | _ => none
def cO.p0 (k : Nat) : Pt := ⟨[.c [1, 1, 1, 1, 0, 0, 1, 1, 1], .b 0, .c [1, 1, 1, 1, 1]], [(0, none, []), (1, none, []), (2, none, []), (3, some .u64, []), (4, some .u64, []), (5, none, []), (40, none, [])], [(15, [])], [], [], fun s => match s with
 | ⟨[(0, .v (.int .i64 a)), (1, .v (.int .i64 b)), (2, .v (.bool c)), (3, .ro true .u64 d), (4, .ro true .u64 e), (5, .v (.int .i64 f)), (40, .v (.bool g)), (15, .ptr 15 0)], [(15, .cells [.v (.int .i64 i), .v (.int .i64 j), .v (.int .i64 m), .v (.int .i64 n)])]⟩ => (cO.j0 k a b c d e f g i j m n).map cO.enc
 | _ => none⟩
def cO.E (k : Nat) : Env := ⟨84, tys, [(139, fZ.app), (140, jl.app), (141, iW.app), (142, aZ.app k), (143, aU.app k)], [(100040, cO.p0 k)], [], false, [22, 23, 24], false⟩
theorem cO.fok (k : Nat) : FO 59 f59 (bW f59) (cO.E k) := fo fG func59 ⟨fZ.ok, ⟨jl.ok, ⟨iW.ok, ⟨aZ.ok k, ⟨aU.ok k, trivial⟩⟩⟩⟩⟩
theorem cO.s0 : jd f59 cO.E cO.p0 := fun k s r h => by
 dsimp only [cO.p0] at h
 split at h
 ·rename_i a b c d e f g i j m n
  rcases k with _ | k
  ·cases h
  simp only [cO.j0] at h
  exact ⟨k, rfl, via (if g = true then (some (.tup [.v (.int .u64 0), .v (.int .i64 0), .v (.int .i64 30)])) else (if ((e.length : Int) == 0) = true then (some (.tup [.v (.int .u64 0), .v (.int .i64 0), .v (.int .i64 10)])) else (if ((d.length : Int) == 0) = true then ((iW.f a c).bind fun o => (some (.tup [.v (.int .u64 o.1), .v (.int .i64 o.2.1), .v (.int .i64 o.2.2)]))) else ((aZ.f k d e (wrap64 (j + 3))).bind fun p => ((aU.f k c p.2.1 (wrap64 (p.2.2.1 + f)) p.2.2.2 a i j m n b).bind fun q => (some (.tup [.v (.int .u64 q.1), .v (.int .i64 q.2), .v (.int .i64 0)]))))))) (tc h)⟩
 ·cases h
theorem cO.pts : ∀ k, iV prog (bW f59) (cO.E k) GOk (Fin prog f59) := iI stays mixed cO.fok [(100040, cO.p0)] ⟨cO.s0, trivial⟩
theorem cO.ok (k : Nat) : AO 59 (cO.app k) := dZ stays mixed (cO.fok k) (cO.pts k) fun l K r h => by
 dsimp only [cO.app] at h
 split at h
 ·rename_i a b c d e f
  exact fin (enc := cO.enc) h rfl fun y h => by
   simp only [cO.f] at h
   exact via ((fZ.f a b).bind fun g => (if (g.2.2.2.2 != 0) = true then (some (.tup [.v (.int .u64 0), .v (.int .i64 0), .v (.int .i64 g.2.2.2.2)])) else ((jl.f d).bind fun i => ((jl.f e).bind fun j => (if (decide ((wrap64 ((i.length : Int) + (j.length : Int))) > 1024)) = true then (some (.tup [.v (.int .u64 0), .v (.int .i64 0), .v (.int .i64 5)])) else (if (decide (f < (-40000))) = false then ((cO.j0 k a b c i j f (decide (f > 40000)) g.1 g.2.1 g.2.2.1 g.2.2.2.1).map cO.enc) else ((cO.j0 k a b c i j f true g.1 g.2.1 g.2.2.1 g.2.2.2.1).map cO.enc))))))) (tc h)
 ·cases h
def eX.enc (r : List Int) : AV := .ro true .u64 r
def eX.app : List AV → (AV → Option AV) → Option AV := fun l K => match l with
 | [.v (.int .i64 a)] => (eX.f a).bind fun r => K (eX.enc r)
 | _ => none
def eX.E : Env := ⟨11, tys, [(91, gI.app)], [], [], false, [73], false⟩
theorem eX.fok : FO 60 f60 (bW f60) (eX.E) := fo fG func60 ⟨gI.ok, trivial⟩
theorem eX.ok : AO 60 (eX.app) := dZ stays mixed (eX.fok) (dY rfl) fun l K r h => by
 dsimp only [eX.app] at h
 split at h
 ·rename_i a
  exact fin (enc := eX.enc) h rfl fun y h => by
   simp only [eX.f] at h
   exact via ((gI.f 10 a).bind fun b => (some (.ro true .u64 b.1))) (tc h)
 ·cases h
def gV.enc (r : Int × Int × Int) : AV := .tup [.v (.int .u64 r.1), .v (.int .i64 r.2.1), .v (.int .i64 r.2.2)]
def gV.app (k : Nat) : List AV → (AV → Option AV) → Option AV := fun l K => match l with
 | [.v (.int .i64 a), .v (.int .i64 b), .v (.string c)] => (gV.f k a b c).bind fun r => K (gV.enc r)
 | _ => none
def gV.E (k : Nat) : Env := ⟨121, tys, [(52, bU.app), (53, fF.app), (54, aT.app k), (55, fO.app), (56, fA.app), (57, je.app), (58, gW.app), (37, jh.app), (60, eX.app), (59, cO.app k), (61, iE.app)], [], [(17, [0, 1, 2, 3, 4, 5, 6, 7, 8, 9, 10, 11, 12, 13, 14])], false, [22, 23, 24], false⟩
theorem gV.fok (k : Nat) : FO 14 f14 (bW f14) (gV.E k) := fo fG func14 ⟨bU.ok, ⟨fF.ok, ⟨aT.ok k, ⟨fO.ok, ⟨fA.ok, ⟨je.ok, ⟨gW.ok, ⟨jh.ok, ⟨eX.ok, ⟨cO.ok k, ⟨iE.ok, trivial⟩⟩⟩⟩⟩⟩⟩⟩⟩⟩⟩
theorem gV.ok (k : Nat) : AO 14 (gV.app k) := dZ stays mixed (gV.fok k) (dY rfl) fun l K r h => by
 dsimp only [gV.app] at h
 split at h
 ·rename_i a b c
  exact fin (enc := gV.enc) h rfl fun y h => by
   simp only [gV.f] at h
   exact via ((bU.f a).bind fun d => (if (d.2.2.2.2 != 0) = true then (some (.tup [.v (.int .u64 0), .v (.int .i64 0), .v (.int .i64 d.2.2.2.2)])) else ((fF.f b).bind fun e => (if (!e) = true then (some (.tup [.v (.int .u64 0), .v (.int .i64 0), .v (.int .i64 3)])) else (if (decide ((c.size : Int) > 2000)) = true then (some (.tup [.v (.int .u64 0), .v (.int .i64 0), .v (.int .i64 5)])) else ((aT.f k c).bind fun f => (if (!f.2.2.2.2) = true then (some (.tup [.v (.int .u64 0), .v (.int .i64 0), .v (.int .i64 8)])) else ((fO.f f.2.2.1 (⟨#[48]⟩ : ByteArray)).bind fun g => (if (f.2.1.toList == (⟨#[105, 110, 102]⟩ : ByteArray).toList) = true then ((fA.f a f.1).bind fun i => (some (.tup [.v (.int .u64 i.1), .v (.int .i64 0), .v (.int .i64 i.2)]))) else (if (f.2.1.toList == (⟨#[110, 97, 110]⟩ : ByteArray).toList) = true then ((je.f a).bind fun j => (some (.tup [.v (.int .u64 j.1), .v (.int .i64 0), .v (.int .i64 j.2)]))) else (if (g.toList == (⟨#[]⟩ : ByteArray).toList) = true then ((gW.f a f.1).bind fun m => (some (.tup [.v (.int .u64 m.1), .v (.int .i64 0), .v (.int .i64 m.2)]))) else ((jh.f g).bind fun n => (if (decide ((mx (wrap64 ((-400) - (g.size : Int))) (mn f.2.2.2.1 (wrap64 (400 - (g.size : Int))))) < 0)) = true then ((eX.f (wrap64 (-(mx (wrap64 ((-400) - (g.size : Int))) (mn f.2.2.2.1 (wrap64 (400 - (g.size : Int)))))))).bind fun o => ((cO.f k a b f.1 n.1 o 0).bind fun p => (some (.tup [.v (.int .u64 p.1), .v (.int .i64 p.2.1), .v (.int .i64 p.2.2)])))) else ((eX.f (mx (wrap64 ((-400) - (g.size : Int))) (mn f.2.2.2.1 (wrap64 (400 - (g.size : Int)))))).bind fun q => ((iE.f n.1 q).bind fun t => ((cO.f k a b f.1 t.1 ([1] : List Int) 0).bind fun u => (some (.tup [.v (.int .u64 u.1), .v (.int .i64 u.2.1), .v (.int .i64 u.2.2)])))))))))))))))))) (tc h)
 ·cases h
def bJ.enc (r : Int × Int × Int × Int × Bool) : AV := .tup [.agg [.v (.int .i64 r.1), .v (.int .i64 r.2.1), .v (.int .i64 r.2.2.1), .v (.int .i64 r.2.2.2.1)], .v (.bool r.2.2.2.2)]
def bJ.app : List AV → (AV → Option AV) → Option AV := fun l K => match l with
 | [.v (.int .i64 a)] => (bJ.f a).bind fun r => K (bJ.enc r)
 | _ => none
def bJ.E : Env := ⟨18, tys, [], [], [], false, [201, 4], false⟩
theorem bJ.fok : FO 145 f145 (bW f145) (bJ.E) := fo fG func145 trivial
theorem bJ.ok : AO 145 (bJ.app) := dZ stays mixed (bJ.fok) (dY rfl) fun l K r h => by
 dsimp only [bJ.app] at h
 split at h
 ·rename_i a
  exact fin (enc := bJ.enc) h rfl fun y h => by
   simp only [bJ.f] at h
   exact via (if (a == 0) = true then (some (.tup [.agg [.v (.int .i64 16), .v (.int .i64 11), .v (.int .i64 (-14)), .v (.int .i64 15)], .v (.bool true)])) else (if (a == 1) = true then (some (.tup [.agg [.v (.int .i64 16), .v (.int .i64 8), .v (.int .i64 (-126)), .v (.int .i64 127)], .v (.bool true)])) else (if (a == 2) = true then (some (.tup [.agg [.v (.int .i64 32), .v (.int .i64 24), .v (.int .i64 (-126)), .v (.int .i64 127)], .v (.bool true)])) else (if (a == 3) = true then (some (.tup [.agg [.v (.int .i64 64), .v (.int .i64 53), .v (.int .i64 (-1022)), .v (.int .i64 1023)], .v (.bool true)])) else (some (.tup [.agg [.v (.int .i64 0), .v (.int .i64 0), .v (.int .i64 0), .v (.int .i64 0)], .v (.bool false)])))))) (tc h)
 ·cases h
def eF.enc (r : Int) : AV := .v (.int .i64 r)
def eF.app : List AV → (AV → Option AV) → Option AV := fun l K => match l with
 | [.v (.int .i64 a), .v (.int .u64 b)] => (eF.f a b).bind fun r => K (eF.enc r)
 | _ => none
def eF.E : Env := ⟨25, tys, [(145, bJ.app)], [], [], false, [3], false⟩
theorem eF.fok : FO 79 f79 (bW f79) (eF.E) := fo fG func79 ⟨bJ.ok, trivial⟩
theorem eF.ok : AO 79 (eF.app) := dZ stays mixed (eF.fok) (dY rfl) fun l K r h => by
 dsimp only [eF.app] at h
 split at h
 ·rename_i a b
  exact fin (enc := eF.enc) h rfl fun y h => by
   simp only [eF.f] at h
   exact via ((bJ.f a).bind fun c => (if (!c.2.2.2.2) = true then (some (.v (.int .i64 2))) else (if (decide (c.1 < 64)) = true then (if (0 : Int) ≤ IntKind.wrap .u64 (c.1) then (if ((shr .u64 b (IntKind.wrap .u64 (c.1))) != 0) = true then (some (.v (.int .i64 4))) else (some (.v (.int .i64 0)))) else (none)) else (some (.v (.int .i64 0)))))) (tc h)
 ·cases h
def aQ.enc (r : Int) : AV := .v (.int .i64 r)
def aQ.app (k : Nat) : List AV → (AV → Option AV) → Option AV := fun l K => match l with
 | [.v (.int .i64 a), .v (.int .i64 b), .ro false .u64 c] => (aQ.f k a b c).bind fun r => K (aQ.enc r)
 | _ => none
def aQ.p0 (k : Nat) : Pt := ⟨[.c [1, 1, 1, 1, 0, 1, 0, 0, 0], .c [1, 1, 1, 1, 0, 1, 0, 0, 1], .l [1, 1, 1, 1, 0, 1, 0, 0], .b 0, .c [1, 1, 1, 1, 1]], [(0, none, []), (25, some .u64, [false]), (26, none, []), (27, none, [])], [], [], [7], fun s => match s with
 | ⟨[(0, .v (.int .i64 a)), (25, .ro false .u64 b), (26, .v (.int .i64 c)), (27, .v (.int .i64 d)), (7, .ptr 7 0)], [(7, .cells [.top, .top, .top, .top])]⟩ => (aQ.l0 k a b c d).map aQ.enc
 | _ => none⟩
def aQ.p1 (k : Nat) : Pt := ⟨[.c [1, 1, 1, 0, 1], .c [1, 1, 1, 1]], [(0, none, []), (2, some .u64, [false]), (24, none, [])], [], [], [7], fun s => match s with
 | ⟨[(0, .v (.int .i64 a)), (2, .ro false .u64 b), (24, .v (.bool c)), (7, .ptr 7 0)], [(7, .cells [.top, .top, .top, .top])]⟩ => (aQ.j0 k a b c).map aQ.enc
 | _ => none⟩
def aQ.E (k : Nat) : Env := ⟨38, tys, [(145, bJ.app), (79, eF.app)], [(7, aQ.p0 k), (100024, aQ.p1 k)], [], false, [3], false⟩
theorem aQ.fok (k : Nat) : FO 62 f62 (bW f62) (aQ.E k) := fo fG func62 ⟨bJ.ok, ⟨eF.ok, trivial⟩⟩
theorem aQ.s0 : jd f62 aQ.E aQ.p0 := fun k s r h => by
 dsimp only [aQ.p0] at h
 split at h
 ·rename_i a b c d
  rcases k with _ | k
  ·cases h
  simp only [aQ.l0] at h
  exact ⟨k, rfl, via (if (decide (d < c)) = true then (if (0 : Int) ≤ d then (if (d : Int) < (b.length : Int) then ((eF.f a (rd b d)).bind fun e => (if (e != 0) = true then (some (.v (.int .i64 e))) else ((aQ.l0 k a b c (wrap64 (d + 1))).map aQ.enc))) else (none)) else (none)) else (some (.v (.int .i64 0)))) (tc h)⟩
 ·cases h
theorem aQ.s1 : jd f62 aQ.E aQ.p1 := fun k s r h => by
 dsimp only [aQ.p1] at h
 split at h
 ·rename_i a b c
  rcases k with _ | k
  ·cases h
  simp only [aQ.j0] at h
  exact ⟨k, rfl, via (if c = true then (some (.v (.int .i64 3))) else ((aQ.l0 k a b (b.length : Int) 0).map aQ.enc)) (tc h)⟩
 ·cases h
theorem aQ.pts : ∀ k, iV prog (bW f62) (aQ.E k) GOk (Fin prog f62) := iI stays mixed aQ.fok [(7, aQ.p0), (100024, aQ.p1)] ⟨aQ.s0, aQ.s1, trivial⟩
theorem aQ.ok (k : Nat) : AO 62 (aQ.app k) := dZ stays mixed (aQ.fok k) (aQ.pts k) fun l K r h => by
 dsimp only [aQ.app] at h
 split at h
 ·rename_i a b c
  exact fin (enc := aQ.enc) h rfl fun y h => by
   simp only [aQ.f] at h
   exact via ((bJ.f a).bind fun d => (if (!d.2.2.2.2) = true then (some (.v (.int .i64 2))) else (if (decide (b < 0)) = false then ((aQ.j0 k a c (decide (b > 5))).map aQ.enc) else ((aQ.j0 k a c true).map aQ.enc)))) (tc h)
 ·cases h
def aW.enc (r : ByteArray) : AV := .v (.string r)
def aW.app (k : Nat) : List AV → (AV → Option AV) → Option AV := fun l K => match l with
 | [.v (.string a)] => (aW.f k a).bind fun r => K (aW.enc r)
 | _ => none
def aW.p0 (k : Nat) : Pt := ⟨[.c [1, 1, 0, 1, 0, 0, 0, 0], .c [1, 1, 0, 1, 0, 0, 0, 1], .c [1, 1, 0, 1, 0, 0, 1], .l [1, 1, 0, 1, 0, 0], .b 0, .c [1, 1, 1]], [(0, none, []), (3, none, []), (4, none, [])], [], [], [], fun s => match s with
 | ⟨[(0, .v (.string a)), (3, .v (.string b)), (4, .v (.int .i64 c))], []⟩ => (aW.l0 k a b c).map aW.enc
 | _ => none⟩
def aW.E (k : Nat) : Env := ⟨29, tys, [], [(3, aW.p0 k)], [], false, [9], false⟩
theorem aW.fok (k : Nat) : FO 146 f146 (bW f146) (aW.E k) := fo fG func146 trivial
theorem aW.s0 : jd f146 aW.E aW.p0 := fun k s r h => by
 dsimp only [aW.p0] at h
 split at h
 ·rename_i a b c
  rcases k with _ | k
  ·cases h
  simp only [aW.l0] at h
  exact ⟨k, rfl, via (if (decide (c < (a.size : Int))) = true then (if (0 : Int) ≤ c then (if (c : Int) < (a.size : Int) then (if (decide ((bt a c) ≥ 65)) = true then (if (decide ((bt a c) ≤ 90)) = true then (if b.size + (strOfNums ([((bt a c) + 32) % 256] : List Int)).size ≤ 9223372036854775807 then ((aW.l0 k a (b ++ (strOfNums ([((bt a c) + 32) % 256] : List Int))) (wrap64 (c + 1))).map aW.enc) else (none)) else (if b.size + (strOfNums ([bt a c] : List Int)).size ≤ 9223372036854775807 then ((aW.l0 k a (b ++ (strOfNums ([bt a c] : List Int))) (wrap64 (c + 1))).map aW.enc) else (none))) else (if b.size + (strOfNums ([bt a c] : List Int)).size ≤ 9223372036854775807 then ((aW.l0 k a (b ++ (strOfNums ([bt a c] : List Int))) (wrap64 (c + 1))).map aW.enc) else (none))) else (none)) else (none)) else (some (.v (.string b)))) (tc h)⟩
 ·cases h
theorem aW.pts : ∀ k, iV prog (bW f146) (aW.E k) GOk (Fin prog f146) := iI stays mixed aW.fok [(3, aW.p0)] ⟨aW.s0, trivial⟩
theorem aW.ok (k : Nat) : AO 146 (aW.app k) := dZ stays mixed (aW.fok k) (aW.pts k) fun l K r h => by
 dsimp only [aW.app] at h
 split at h
 ·rename_i a
  exact fin (enc := aW.enc) h rfl fun y h => by
   simp only [aW.f] at h
   exact via ((aW.l0 k a (⟨#[]⟩ : ByteArray) 0).map aW.enc) (tc h)
 ·cases h
def dh.enc (r : Bool) : AV := .v (.bool r)
def dh.app : List AV → (AV → Option AV) → Option AV := fun l K => match l with
 | [.v (.int .u8 a)] => (dh.f a).bind fun r => K (dh.enc r)
 | _ => none
def dh.E : Env := ⟨9, tys, [], [], [], false, [4], false⟩
theorem dh.fok : FO 147 f147 (bW f147) (dh.E) := fo fG func147 trivial
theorem dh.ok : AO 147 (dh.app) := dZ stays mixed (dh.fok) (dY rfl) fun l K r h => by
 dsimp only [dh.app] at h
 split at h
 ·rename_i a
  exact fin (enc := dh.enc) h rfl fun y h => by
   simp only [dh.f] at h
   exact via (if (decide (a ≥ 48)) = true then (some (.v (.bool (decide (a ≤ 57))))) else (some (.v (.bool false)))) (tc h)
 ·cases h
def ak.enc (r : Int × Bool) : AV := .tup [.v (.int .i64 r.1), .v (.bool r.2)]
def ak.app (k : Nat) : List AV → (AV → Option AV) → Option AV := fun l K => match l with
 | [.v (.string a)] => (ak.f k a).bind fun r => K (ak.enc r)
 | _ => none
def ak.p0 (k : Nat) : Pt := ⟨[.c [1, 1, 0, 0], .c [1, 1, 0, 1], .c [1, 1, 1]], [(0, none, []), (4, none, [])], [], [], [], fun s => match s with
 | ⟨[(0, .v (.string a)), (4, .v (.bool b))], []⟩ => (ak.j0 k a b).map ak.enc
 | _ => none⟩
def ak.p1 (k : Nat) : Pt := ⟨[.c [1, 1, 1, 0], .c [1, 1, 1, 1]], [(0, none, []), (4, none, [])], [], [], [], fun s => match s with
 | ⟨[(0, .v (.string a)), (4, .v (.bool b))], []⟩ => (ak.j2 k a b).map ak.enc
 | _ => none⟩
def ak.p2 (k : Nat) : Pt := ⟨[.c [1, 1, 1, 1, 0, 1, 0, 0, 0, 0], .c [1, 1, 1, 1, 0, 1, 0, 0, 0, 1], .c [1, 1, 1, 1, 0, 1, 0, 0, 1], .l [1, 1, 1, 1, 0, 1, 0, 0], .b 0, .c [1, 1, 1, 1, 1]], [(0, none, []), (4, none, []), (5, none, []), (6, none, [])], [], [], [], fun s => match s with
 | ⟨[(0, .v (.string a)), (4, .v (.bool b)), (5, .v (.int .i64 c)), (6, .v (.int .i64 d))], []⟩ => (ak.l0 k a b c d).map ak.enc
 | _ => none⟩
def ak.p3 (k : Nat) : Pt := ⟨[.c [1, 1, 0, 1], .c [1, 1, 1]], [(0, none, []), (4, none, []), (27, none, [])], [], [], [], fun s => match s with
 | ⟨[(0, .v (.string a)), (4, .v (.bool b)), (27, .v (.bool c))], []⟩ => (ak.j1 k a b c).map ak.enc
 | _ => none⟩
def ak.E (k : Nat) : Env := ⟨57, tys, [(147, dh.app)], [(2, ak.p0 k), (4, ak.p1 k), (6, ak.p2 k), (100027, ak.p3 k)], [], false, [3, 4], false⟩
theorem ak.fok (k : Nat) : FO 148 f148 (bW f148) (ak.E k) := fo fG func148 ⟨dh.ok, trivial⟩
theorem ak.s0 : jd f148 ak.E ak.p0 := fun k s r h => by
 dsimp only [ak.p0] at h
 split at h
 ·rename_i a b
  rcases k with _ | k
  ·cases h
  simp only [ak.j0] at h
  exact ⟨k, rfl, via (if (decide ((a.size : Int) > 0)) = true then (if (0 : Int) ≤ 0 then (if (0 : Int) < (a.size : Int) then (if ((bt a 0) == 45) = false then (if (0 : Int) ≤ 0 then (if (0 : Int) < (a.size : Int) then ((ak.j1 k a b ((bt a 0) == 43)).map ak.enc) else (none)) else (none)) else ((ak.j1 k a b true).map ak.enc)) else (none)) else (none)) else ((ak.j1 k a b false).map ak.enc)) (tc h)⟩
 ·cases h
theorem ak.s1 : jd f148 ak.E ak.p1 := fun k s r h => by
 dsimp only [ak.p1] at h
 split at h
 ·rename_i a b
  rcases k with _ | k
  ·cases h
  simp only [ak.j2] at h
  exact ⟨k, rfl, via ((ak.l0 k a b 0 0).map ak.enc) (tc h)⟩
 ·cases h
theorem ak.s2 : jd f148 ak.E ak.p2 := fun k s r h => by
 dsimp only [ak.p2] at h
 split at h
 ·rename_i a b c d
  rcases k with _ | k
  ·cases h
  simp only [ak.l0] at h
  exact ⟨k, rfl, via (if (decide (d < (a.size : Int))) = true then (if (0 : Int) ≤ d then (if (d : Int) < (a.size : Int) then ((dh.f (bt a d)).bind fun e => (if (!e) = true then (some (.tup [.v (.int .i64 0), .v (.bool false)])) else (if (0 : Int) ≤ d then (if (d : Int) < (a.size : Int) then ((ak.l0 k a b (mn (wrap64 ((wrap64 (10 * c)) + (wrap64 (((bt a d) - 48) % 256)))) 1000000000) (wrap64 (d + 1))).map ak.enc) else (none)) else (none)))) else (none)) else (none)) else (if b = true then (some (.tup [.v (.int .i64 (wrap64 (-c))), .v (.bool (decide ((a.size : Int) > 0)))])) else (some (.tup [.v (.int .i64 c), .v (.bool (decide ((a.size : Int) > 0)))])))) (tc h)⟩
 ·cases h
theorem ak.s3 : jd f148 ak.E ak.p3 := fun k s r h => by
 dsimp only [ak.p3] at h
 split at h
 ·rename_i a b c
  rcases k with _ | k
  ·cases h
  simp only [ak.j1] at h
  exact ⟨k, rfl, via (if c = true then (if (0 : Int) ≤ 1 then (if (1 : Int) ≤ (a.size : Int) then ((ak.j2 k (a.extract (1 : Int).toNat ((a.size : Int) : Int).toNat) b).map ak.enc) else (none)) else (none)) else ((ak.j2 k a b).map ak.enc)) (tc h)⟩
 ·cases h
theorem ak.pts : ∀ k, iV prog (bW f148) (ak.E k) GOk (Fin prog f148) := iI stays mixed ak.fok [(2, ak.p0), (4, ak.p1), (6, ak.p2), (100027, ak.p3)] ⟨ak.s0, ak.s1, ak.s2, ak.s3, trivial⟩
theorem ak.ok (k : Nat) : AO 148 (ak.app k) := dZ stays mixed (ak.fok k) (ak.pts k) fun l K r h => by
 dsimp only [ak.app] at h
 split at h
 ·rename_i a
  exact fin (enc := ak.enc) h rfl fun y h => by
   simp only [ak.f] at h
   exact via (if (decide ((a.size : Int) > 0)) = true then (if (0 : Int) ≤ 0 then (if (0 : Int) < (a.size : Int) then ((ak.j0 k a ((bt a 0) == 45)).map ak.enc) else (none)) else (none)) else ((ak.j0 k a false).map ak.enc)) (tc h)
 ·cases h
def ah.enc (r : Bool × Bool × Bool × ByteArray × Int × Bool) : AV := .tup [.agg [.v (.bool r.1), .v (.bool r.2.1), .v (.bool r.2.2.1), .v (.string r.2.2.2.1), .v (.int .i64 r.2.2.2.2.1)], .v (.bool r.2.2.2.2.2)]
def ah.app (k : Nat) : List AV → (AV → Option AV) → Option AV := fun l K => match l with
 | [.v (.string a)] => (ah.f k a).bind fun r => K (ah.enc r)
 | _ => none
def ah.p0 (k : Nat) : Pt := ⟨[.c [1, 1, 1, 0, 0], .c [1, 1, 1, 0, 1], .c [1, 1, 1, 1]], [(0, none, [])], [(4, [])], [], [2], fun s => match s with
 | ⟨[(0, .v (.string a)), (4, .ptr 4 0), (2, .ptr 2 0)], [(4, .cells [.v (.bool b), .v (.bool c), .v (.bool d), .v (.string e), .v (.int .i64 f)]), (2, .cells [.top, .top, .top, .top, .top])]⟩ => (ah.j1 k a b c d e f).map ah.enc
 | _ => none⟩
def ah.p1 (k : Nat) : Pt := ⟨[.c [1, 1, 1, 1, 0], .c [1, 1, 1, 1, 1]], [(0, none, [])], [(4, [])], [], [2], fun s => match s with
 | ⟨[(0, .v (.string a)), (4, .ptr 4 0), (2, .ptr 2 0)], [(4, .cells [.v (.bool b), .v (.bool c), .v (.bool d), .v (.string e), .v (.int .i64 f)]), (2, .cells [.top, .top, .top, .top, .top])]⟩ => (ah.j2 k a b c d e f).map ah.enc
 | _ => none⟩
def ah.p2 (k : Nat) : Pt := ⟨[.c [1, 1, 1, 1, 1, 0, 1, 0, 0, 0, 0], .c [1, 1, 1, 1, 1, 0, 1, 0, 0, 0, 1], .c [1, 1, 1, 1, 1, 0, 1, 0, 0, 1], .l [1, 1, 1, 1, 1, 0, 1, 0, 0], .b 0, .c [1, 1, 1, 1, 1, 1]], [(0, none, []), (5, none, []), (6, none, [])], [(4, [])], [], [2], fun s => match s with
 | ⟨[(0, .v (.string a)), (5, .v (.int .i64 b)), (6, .v (.int .i64 c)), (4, .ptr 4 0), (2, .ptr 2 0)], [(4, .cells [.v (.bool d), .v (.bool e), .v (.bool f), .v (.string g), .v (.int .i64 i)]), (2, .cells [.top, .top, .top, .top, .top])]⟩ => (ah.l0 k a b c d e f g i).map ah.enc
 | _ => none⟩
def ah.p3 (k : Nat) : Pt := ⟨[.c [1, 1, 0, 1], .c [1, 1, 1]], [(0, none, []), (22, none, [])], [(4, [])], [], [2], fun s => match s with
 | ⟨[(0, .v (.string a)), (22, .v (.bool b)), (4, .ptr 4 0), (2, .ptr 2 0)], [(4, .cells [.v (.bool c), .v (.bool d), .v (.bool e), .v (.string f), .v (.int .i64 g)]), (2, .cells [.top, .top, .top, .top, .top])]⟩ => (ah.j0 k a b c d e f g).map ah.enc
 | _ => none⟩
def ah.p4 (k : Nat) : Pt := ⟨[.c [1, 1, 1, 1, 1, 0, 1, 0, 0, 1, 0, 0, 0, 1, 1, 1], .b 2, .b 1, .c [1, 1, 1, 1, 1, 0, 1, 0, 0, 1, 1], .l [1, 1, 1, 1, 1, 0, 1, 0, 0], .b 0, .c [1, 1, 1, 1, 1, 1]], [(0, none, []), (5, none, []), (6, none, []), (72, none, [])], [(4, [])], [], [2], fun s => match s with
 | ⟨[(0, .v (.string a)), (5, .v (.int .i64 b)), (6, .v (.int .i64 c)), (72, .v (.bool d)), (4, .ptr 4 0), (2, .ptr 2 0)], [(4, .cells [.v (.bool e), .v (.bool f), .v (.bool g), .v (.string i), .v (.int .i64 j)]), (2, .cells [.top, .top, .top, .top, .top])]⟩ => (ah.j4 k a b c d e f g i j).map ah.enc
 | _ => none⟩
def ah.x23 (k : Nat) (x8 : Bool) (x5000 : Bool) (x5001 : Bool) (x5002 : Bool) (x5003 : ByteArray) (x5004 : Int) : Option AV := if x8 = true then (some (.tup [.agg [.v (.bool x5000), .v (.bool x5001), .v (.bool x5002), .v (.string x5003), .v (.int .i64 x5004)], .v (.bool (x5003.toList != (⟨#[]⟩ : ByteArray).toList))])) else (some (.tup [.agg [.v (.bool x5000), .v (.bool x5001), .v (.bool x5002), .v (.string x5003), .v (.int .i64 x5004)], .v (.bool false)]))
def ah.q23 (k : Nat) : Pt := ⟨[.c [1, 1, 1, 1, 1, 0, 1, 0, 0, 1, 0, 0, 0, 1, 1, 1, 1, 1, 0, 1, 1, 0], .c [1, 1, 1, 1, 1, 0, 1, 0, 0, 1, 0, 0, 0, 1, 1, 1, 1, 1, 0, 1, 1, 1], .b 2, .b 1, .c [1, 1, 1, 1, 1, 0, 1, 0, 0, 1, 1], .l [1, 1, 1, 1, 1, 0, 1, 0, 0], .b 0, .c [1, 1, 1, 1, 1, 1]], [(8, none, [])], [(4, [])], [], [2], fun s => match s with
 | ⟨[(8, .v (.bool x8)), (4, .ptr 4 0), (2, .ptr 2 0)], [(4, .cells [.v (.bool x5000), .v (.bool x5001), .v (.bool x5002), .v (.string x5003), .v (.int .i64 x5004)]), (2, .cells [.top, .top, .top, .top, .top])]⟩ => ah.x23 k x8 x5000 x5001 x5002 x5003 x5004
 | _ => none⟩
def ah.x25 (k : Nat) (x5000 : Bool) (x5001 : Bool) (x5002 : Bool) (x5003 : ByteArray) (x5004 : Int) : Option AV := some (.tup [.agg [.v (.bool x5000), .v (.bool x5001), .v (.bool x5002), .v (.string x5003), .v (.int .i64 x5004)], .v (.bool (x5003.toList != (⟨#[]⟩ : ByteArray).toList))])
def ah.q25 (k : Nat) : Pt := ⟨[.c [1, 1, 1, 1, 1, 1, 1, 0], .c [1, 1, 1, 1, 1, 1, 1, 1]], [], [(4, [])], [], [2], fun s => match s with
 | ⟨[(4, .ptr 4 0), (2, .ptr 2 0)], [(4, .cells [.v (.bool x5000), .v (.bool x5001), .v (.bool x5002), .v (.string x5003), .v (.int .i64 x5004)]), (2, .cells [.top, .top, .top, .top, .top])]⟩ => ah.x25 k x5000 x5001 x5002 x5003 x5004
 | _ => none⟩
def ah.E (k : Nat) : Env := ⟨120, tys, [(146, aW.app k), (147, dh.app), (148, ak.app k)], [(23, ah.q23 k), (25, ah.q25 k), (5, ah.p0 k), (9, ah.p1 k), (11, ah.p2 k), (100022, ah.p3 k), (100072, ah.p4 k)], [(15, [0, 1, 2, 3, 4, 5, 6, 7, 8, 9])], false, [104, 4], false⟩
def ah.E0 (k : Nat) : Env := ⟨120, tys, [(146, aW.app k), (147, dh.app), (148, ak.app k)], [(25, ah.q25 k), (5, ah.p0 k), (9, ah.p1 k), (11, ah.p2 k), (100022, ah.p3 k), (100072, ah.p4 k)], [(15, [0, 1, 2, 3, 4, 5, 6, 7, 8, 9])], false, [104, 4], false⟩
def ah.E1 (k : Nat) : Env := ⟨120, tys, [(146, aW.app k), (147, dh.app), (148, ak.app k)], [(5, ah.p0 k), (9, ah.p1 k), (11, ah.p2 k), (100022, ah.p3 k), (100072, ah.p4 k)], [(15, [0, 1, 2, 3, 4, 5, 6, 7, 8, 9])], false, [104, 4], false⟩
theorem ah.fok (k : Nat) : FO 63 f63 (bW f63) (ah.E k) := fo fG func63 ⟨aW.ok k, ⟨dh.ok, ⟨ak.ok k, trivial⟩⟩⟩
theorem ah.Uc (k : Nat) : FO 63 f63 (bW f63) (ah.E0 k) := { ah.fok k with }
theorem ah.Ud (k : Nat) : FO 63 f63 (bW f63) (ah.E1 k) := { ah.fok k with }
theorem ah.s0 : jd f63 ah.E ah.p0 := fun k s r h => by
 dsimp only [ah.p0] at h
 split at h
 ·rename_i a b c d e f
  rcases k with _ | k
  ·cases h
  simp only [ah.j1] at h
  exact ⟨k, rfl, via (if ((a.size : Int) == 3) = true then ((aW.f k a).bind fun g => ((aW.f k a).bind fun i => (if (g.toList == (⟨#[105, 110, 102]⟩ : ByteArray).toList) = false then (if (i.toList == (⟨#[110, 97, 110]⟩ : ByteArray).toList) = true then (some (.tup [.agg [.v (.bool b), .v (.bool (g.toList == (⟨#[105, 110, 102]⟩ : ByteArray).toList)), .v (.bool (i.toList == (⟨#[110, 97, 110]⟩ : ByteArray).toList)), .v (.string e), .v (.int .i64 f)], .v (.bool true)])) else ((ah.j2 k a b (g.toList == (⟨#[105, 110, 102]⟩ : ByteArray).toList) (i.toList == (⟨#[110, 97, 110]⟩ : ByteArray).toList) e f).map ah.enc)) else (some (.tup [.agg [.v (.bool b), .v (.bool (g.toList == (⟨#[105, 110, 102]⟩ : ByteArray).toList)), .v (.bool (i.toList == (⟨#[110, 97, 110]⟩ : ByteArray).toList)), .v (.string e), .v (.int .i64 f)], .v (.bool true)]))))) else ((ah.j2 k a b c d e f).map ah.enc)) (by (try simp only [ah.x23, ah.x25]); exact tc h)⟩
 ·cases h
theorem ah.s1 : jd f63 ah.E ah.p1 := fun k s r h => by
 dsimp only [ah.p1] at h
 split at h
 ·rename_i a b c d e f
  rcases k with _ | k
  ·cases h
  simp only [ah.j2] at h
  exact ⟨k, rfl, via ((ah.l0 k a (-1) 0 b c d e f).map ah.enc) (by (try simp only [ah.x23, ah.x25]); exact tc h)⟩
 ·cases h
theorem ah.s2 : jd f63 ah.E ah.p2 := fun k s r h => by
 dsimp only [ah.p2] at h
 split at h
 ·rename_i a b c d e f g i
  rcases k with _ | k
  ·cases h
  simp only [ah.l0] at h
  exact ⟨k, rfl, via (if (decide (c < (a.size : Int))) = true then (if (0 : Int) ≤ c then (if (c : Int) < (a.size : Int) then ((dh.f (bt a c)).bind fun j => (if j = true then (if (0 : Int) ≤ wrap64 (c + 1) then (if (wrap64 (c + 1) : Int) ≤ (a.size : Int) then (if (0 : Int) ≤ c then (if (c : Int) ≤ wrap64 (c + 1) then (if g.size + (a.extract (c : Int).toNat (wrap64 (c + 1) : Int).toNat).size ≤ 9223372036854775807 then (if (decide (b ≥ 0)) = true then ((ah.l0 k a (wrap64 (b + 1)) (wrap64 (c + 1)) d e f (g ++ (a.extract (c : Int).toNat (wrap64 (c + 1) : Int).toNat)) i).map ah.enc) else ((ah.l0 k a b (wrap64 (c + 1)) d e f (g ++ (a.extract (c : Int).toNat (wrap64 (c + 1) : Int).toNat)) i).map ah.enc)) else (none)) else (none)) else (none)) else (none)) else (none)) else (if (0 : Int) ≤ c then (if (c : Int) < (a.size : Int) then (if ((bt a c) == 46) = true then ((ah.j4 k a b c (decide (b < 0)) d e f g i).map ah.enc) else ((ah.j4 k a b c false d e f g i).map ah.enc)) else (none)) else (none)))) else (none)) else (none)) else (ah.x25 k d e f g (wrap64 (-(mx 0 b))))) (by (try simp only [ah.x23, ah.x25]); exact tc h)⟩
 ·cases h
theorem ah.s3 : jd f63 ah.E ah.p3 := fun k s r h => by
 dsimp only [ah.p3] at h
 split at h
 ·rename_i a b c d e f g
  rcases k with _ | k
  ·cases h
  simp only [ah.j0] at h
  exact ⟨k, rfl, via (if b = true then (if (0 : Int) ≤ 0 then (if (0 : Int) < (a.size : Int) then (if (0 : Int) ≤ 1 then (if (1 : Int) ≤ (a.size : Int) then ((ah.j1 k (a.extract (1 : Int).toNat ((a.size : Int) : Int).toNat) ((bt a 0) == 45) d e f g).map ah.enc) else (none)) else (none)) else (none)) else (none)) else ((ah.j1 k a c d e f g).map ah.enc)) (by (try simp only [ah.x23, ah.x25]); exact tc h)⟩
 ·cases h
theorem ah.s4 : jd f63 ah.E ah.p4 := fun k s r h => by
 dsimp only [ah.p4] at h
 split at h
 ·rename_i a b c d e f g i j
  rcases k with _ | k
  ·cases h
  simp only [ah.j4] at h
  exact ⟨k, rfl, via (if d = true then ((ah.l0 k a 0 (wrap64 (c + 1)) e f g i j).map ah.enc) else (if (0 : Int) ≤ c then (if (c : Int) < (a.size : Int) then (if ((bt a c) == 101) = false then (if (0 : Int) ≤ c then (if (c : Int) < (a.size : Int) then (if ((bt a c) == 69) = true then (if (0 : Int) ≤ wrap64 (c + 1) then (if (wrap64 (c + 1) : Int) ≤ (a.size : Int) then ((ak.f k (a.extract (wrap64 (c + 1) : Int).toNat ((a.size : Int) : Int).toNat)).bind fun m => (ah.x23 k m.2 e f g i (wrap64 (m.1 - (mx 0 b))))) else (none)) else (none)) else (some (.tup [.agg [.v (.bool e), .v (.bool f), .v (.bool g), .v (.string i), .v (.int .i64 j)], .v (.bool false)]))) else (none)) else (none)) else (if (0 : Int) ≤ wrap64 (c + 1) then (if (wrap64 (c + 1) : Int) ≤ (a.size : Int) then ((ak.f k (a.extract (wrap64 (c + 1) : Int).toNat ((a.size : Int) : Int).toNat)).bind fun n => (ah.x23 k n.2 e f g i (wrap64 (n.1 - (mx 0 b))))) else (none)) else (none))) else (none)) else (none))) (by (try simp only [ah.x23, ah.x25]); exact tc h)⟩
 ·cases h
theorem ah.u25 (k : Nat) : ∀ s r, (ah.q25 k).ap s = some r → ∀ t ∈ [[0, 1, 2, 3, 4, 5], [0, 1, 2, 4, 3, 5], [0, 1, 4, 2, 3, 5], [0, 4, 1, 2, 3, 5], [1, 0, 2, 3, 4, 5], [1, 0, 2, 4, 3, 5], [1, 0, 4, 2, 3, 5], [1, 2, 0, 3, 4, 5], [1, 2, 0, 4, 3, 5], [1, 2, 3, 0, 4, 5]], ∃ l, inOrder (zn (bW f63) [1, 1, 1, 1, 1, 1, 1, 0]) t = some l ∧ jS (ah.E1 k) (zn (bW f63) [1, 1, 1, 1, 1, 1, 1, 0]) l s (fun s => run (ah.E1 k) f63.results.toList 400 false (Dc (bW f63) [.c [1, 1, 1, 1, 1, 1, 1, 1]]) s) = some r := fun s r h => by
 dsimp only [ah.q25] at h
 split at h
 ·rename_i x5000 x5001 x5002 x5003 x5004
  exact zq (r0 := ah.x25 k x5000 x5001 x5002 x5003 x5004) h ⟨by kernel_rfl, by kernel_rfl, by kernel_rfl, by kernel_rfl, by kernel_rfl, by kernel_rfl, by kernel_rfl, by kernel_rfl, by kernel_rfl, by kernel_rfl, trivial⟩
 ·cases h
theorem ah.u23 (k : Nat) : ∀ s r, (ah.q23 k).ap s = some r → ∀ t ∈ [[0, 1, 2, 3, 4, 5, 6, 7, 8], [0, 1, 2, 3, 4, 5, 7, 6, 8], [0, 1, 2, 3, 4, 7, 5, 6, 8], [0, 1, 2, 3, 7, 4, 5, 6, 8], [0, 1, 2, 7, 3, 4, 5, 6, 8], [1, 0, 2, 3, 4, 5, 6, 7, 8], [1, 0, 2, 3, 4, 5, 7, 6, 8], [1, 0, 2, 3, 4, 7, 5, 6, 8], [1, 0, 2, 3, 7, 4, 5, 6, 8], [1, 0, 2, 7, 3, 4, 5, 6, 8], [1, 2, 0, 3, 4, 5, 6, 7, 8], [1, 2, 0, 3, 4, 5, 7, 6, 8], [1, 2, 0, 3, 4, 7, 5, 6, 8], [1, 2, 0, 3, 7, 4, 5, 6, 8], [1, 2, 0, 7, 3, 4, 5, 6, 8], [1, 2, 3, 0, 4, 5, 6, 7, 8], [1, 2, 3, 0, 4, 5, 7, 6, 8], [1, 2, 3, 0, 4, 7, 5, 6, 8], [1, 2, 3, 0, 7, 4, 5, 6, 8], [1, 2, 3, 4, 0, 5, 6, 7, 8], [1, 2, 3, 4, 0, 5, 7, 6, 8], [1, 2, 3, 4, 0, 7, 5, 6, 8], [1, 2, 3, 4, 5, 0, 6, 7, 8], [1, 2, 3, 4, 5, 0, 7, 6, 8], [1, 2, 3, 4, 5, 6, 0, 7, 8]], ∃ l, inOrder (zn (bW f63) [1, 1, 1, 1, 1, 0, 1, 0, 0, 1, 0, 0, 0, 1, 1, 1, 1, 1, 0, 1, 1, 0]) t = some l ∧ jS (ah.E0 k) (zn (bW f63) [1, 1, 1, 1, 1, 0, 1, 0, 0, 1, 0, 0, 0, 1, 1, 1, 1, 1, 0, 1, 1, 0]) l s (fun s => run (ah.E0 k) f63.results.toList 400 false (Dc (bW f63) [.c [1, 1, 1, 1, 1, 0, 1, 0, 0, 1, 0, 0, 0, 1, 1, 1, 1, 1, 0, 1, 1, 1], .b 2, .b 1, .c [1, 1, 1, 1, 1, 0, 1, 0, 0, 1, 1], .l [1, 1, 1, 1, 1, 0, 1, 0, 0], .b 0, .c [1, 1, 1, 1, 1, 1]]) s) = some r := fun s r h => by
 dsimp only [ah.q23] at h
 split at h
 ·rename_i x8 x5000 x5001 x5002 x5003 x5004
  exact zq (r0 := ah.x23 k x8 x5000 x5001 x5002 x5003 x5004) h ⟨by kernel_rfl, by kernel_rfl, by kernel_rfl, by kernel_rfl, by kernel_rfl, by kernel_rfl, by kernel_rfl, by kernel_rfl, by kernel_rfl, by kernel_rfl, by kernel_rfl, by kernel_rfl, by kernel_rfl, by kernel_rfl, by kernel_rfl, by kernel_rfl, by kernel_rfl, by kernel_rfl, by kernel_rfl, by kernel_rfl, by kernel_rfl, by kernel_rfl, by kernel_rfl, by kernel_rfl, by kernel_rfl, trivial⟩
 ·cases h
theorem ah.up (k : Nat) (h : iV prog (bW f63) (ah.E1 k) GOk (Fin prog f63)) : iV prog (bW f63) (ah.E k) GOk (Fin prog f63) := (tZ stays mixed (ah.Uc k) (tZ stays mixed (ah.Ud k) h rfl (by kernel_rfl) (ah.u25 k)) rfl (by kernel_rfl) (ah.u23 k))
theorem ah.pts : ∀ k, iV prog (bW f63) (ah.E1 k) GOk (Fin prog f63) := iI stays mixed ah.fok [(5, ah.p0), (9, ah.p1), (11, ah.p2), (100022, ah.p3), (100072, ah.p4)] ⟨ah.s0, ah.s1, ah.s2, ah.s3, ah.s4, trivial⟩ ah.up
theorem ah.ok (k : Nat) : AO 63 (ah.app k) := dZ stays mixed (ah.fok k) (ah.up k (ah.pts k)) fun l K r h => by
 dsimp only [ah.app] at h
 split at h
 ·rename_i a
  exact fin (enc := ah.enc) h rfl fun y h => by
   simp only [ah.f] at h
   exact via (if (decide ((a.size : Int) > 0)) = true then (if (0 : Int) ≤ 0 then (if (0 : Int) < (a.size : Int) then (if ((bt a 0) == 45) = false then (if (0 : Int) ≤ 0 then (if (0 : Int) < (a.size : Int) then ((ah.j0 k a ((bt a 0) == 43) false false false (⟨#[]⟩ : ByteArray) 0).map ah.enc) else (none)) else (none)) else ((ah.j0 k a true false false false (⟨#[]⟩ : ByteArray) 0).map ah.enc)) else (none)) else (none)) else ((ah.j0 k a false false false false (⟨#[]⟩ : ByteArray) 0).map ah.enc)) (by (try simp only [ah.x23, ah.x25]); exact tc h)
 ·cases h
def bK.enc (r : Int) : AV := .v (.int .u64 r)
def bK.app : List AV → (AV → Option AV) → Option AV := fun l K => match l with
 | [.v (.int .i64 a), .v (.int .u64 b), .v (.int .u64 c), .v (.int .u64 d)] => (bK.f a b c d).bind fun r => K (bK.enc r)
 | _ => none
def bK.E : Env := ⟨31, tys, [(145, bJ.app)], [], [], false, [22], false⟩
theorem bK.fok : FO 149 f149 (bW f149) (bK.E) := fo fG func149 ⟨bJ.ok, trivial⟩
theorem bK.ok : AO 149 (bK.app) := dZ stays mixed (bK.fok) (dY rfl) fun l K r h => by
 dsimp only [bK.app] at h
 split at h
 ·rename_i a b c d
  exact fin (enc := bK.enc) h rfl fun y h => by
   simp only [bK.f] at h
   exact via ((bJ.f a).bind fun e => (if (0 : Int) ≤ IntKind.wrap .u64 (wrap64 (e.1 - 1)) then (if (0 : Int) ≤ IntKind.wrap .u64 (wrap64 (e.2.1 - 1)) then (some (.v (.int .u64 (Go.bits .or .u64 (Go.bits .or .u64 (shl .u64 b (IntKind.wrap .u64 (wrap64 (e.1 - 1)))) (shl .u64 c (IntKind.wrap .u64 (wrap64 (e.2.1 - 1))))) d)))) else (none)) else (none))) (tc h)
 ·cases h
def eG.enc (r : Int) : AV := .v (.int .u64 r)
def eG.app : List AV → (AV → Option AV) → Option AV := fun l K => match l with
 | [.v (.int .i64 a)] => (eG.f a).bind fun r => K (eG.enc r)
 | _ => none
def eG.E : Env := ⟨22, tys, [(145, bJ.app), (149, bK.app)], [], [], false, [22], false⟩
theorem eG.fok : FO 64 f64 (bW f64) (eG.E) := fo fG func64 ⟨bJ.ok, ⟨bK.ok, trivial⟩⟩
theorem eG.ok : AO 64 (eG.app) := dZ stays mixed (eG.fok) (dY rfl) fun l K r h => by
 dsimp only [eG.app] at h
 split at h
 ·rename_i a
  exact fin (enc := eG.enc) h rfl fun y h => by
   simp only [eG.f] at h
   exact via ((bJ.f a).bind fun b => (if (0 : Int) ≤ IntKind.wrap .u64 (wrap64 (b.2.1 - 2)) then ((bK.f a 0 (IntKind.wrap .u64 (wrap64 ((wrap64 (2 * b.2.2.2.1)) + 1))) (shl .u64 1 (IntKind.wrap .u64 (wrap64 (b.2.1 - 2))))).bind fun c => (some (.v (.int .u64 c)))) else (none))) (tc h)
 ·cases h
def dR.enc (r : Int) : AV := .v (.int .u64 r)
def dR.app : List AV → (AV → Option AV) → Option AV := fun l K => match l with
 | [.v (.int .i64 a), .v (.int .u64 b)] => (dR.f a b).bind fun r => K (dR.enc r)
 | _ => none
def dR.E : Env := ⟨20, tys, [(145, bJ.app), (149, bK.app)], [], [], false, [22], false⟩
theorem dR.fok : FO 65 f65 (bW f65) (dR.E) := fo fG func65 ⟨bJ.ok, ⟨bK.ok, trivial⟩⟩
theorem dR.ok : AO 65 (dR.app) := dZ stays mixed (dR.fok) (dY rfl) fun l K r h => by
 dsimp only [dR.app] at h
 split at h
 ·rename_i a b
  exact fin (enc := dR.enc) h rfl fun y h => by
   simp only [dR.f] at h
   exact via ((bJ.f a).bind fun c => ((bK.f a b (IntKind.wrap .u64 (wrap64 ((wrap64 (2 * c.2.2.2.1)) + 1))) 0).bind fun d => (some (.v (.int .u64 d))))) (tc h)
 ·cases h
def bg.enc (r : List Int) : AV := .ro true .u64 r
def bg.app (k : Nat) : List AV → (AV → Option AV) → Option AV := fun l K => match l with
 | [.ro false .u64 a] => (bg.f k a).bind fun r => K (bg.enc r)
 | _ => none
def bg.p0 (k : Nat) : Pt := ⟨[.c [1, 1, 0, 1, 0, 0, 0, 0], .c [1, 1, 0, 1, 0, 0, 0, 1], .c [1, 1, 0, 1, 0, 0, 1], .l [1, 1, 0, 1, 0, 0], .b 0, .c [1, 1, 1]], [(0, some .u64, [false]), (4, none, []), (2, some .u64, [])], [], [(3, .u64, 22)], [], fun s => match s with
 | ⟨[(0, .ro false .u64 a), (4, .v (.int .i64 b)), (2, .ro true .u64 []), (3, .own 3)], [(3, .ints .u64 22 c)]⟩ => (bg.l0 k a c b).map bg.enc
 | _ => none⟩
def bg.E (k : Nat) : Env := ⟨37, tys, [(154, bI.app)], [(3, bg.p0 k)], [(5, [0, 1, 2, 3, 4, 5, 6, 7, 8, 9, 10, 11, 12, 13, 14, 15, 16, 17, 18, 19])], false, [73], false⟩
theorem bg.fok (k : Nat) : FO 150 f150 (bW f150) (bg.E k) := fo fG func150 ⟨bI.ok, trivial⟩
theorem bg.s0 : jd f150 bg.E bg.p0 := fun k s r h => by
 dsimp only [bg.p0] at h
 split at h
 ·rename_i a b c
  rcases k with _ | k
  ·cases h
  simp only [bg.l0] at h
  exact ⟨k, rfl, via (if (decide (b < (a.length : Int))) = true then (if (2 : Int) = 0 then (none) else (if (2 : Int) = 0 then (none) else (if (0 : Int) ≤ wrap64 (Int.tdiv b 2) then (if (wrap64 (Int.tdiv b 2) : Int) < (c.length : Int) then (if (0 : Int) ≤ b then (if (b : Int) < (a.length : Int) then (if (2 : Int) = 0 then (none) else (if (0 : Int) ≤ IntKind.wrap .u64 (wrap64 (32 * (Int.tmod b 2))) then (if (0 : Int) ≤ wrap64 (Int.tdiv b 2) then (if (wrap64 (Int.tdiv b 2) : Int) < (c.length : Int) then ((bg.l0 k a (c.set (wrap64 (Int.tdiv b 2) : Int).toNat (Go.bits .or .u64 (rd c (wrap64 (Int.tdiv b 2))) (shl .u64 (rd a b) (IntKind.wrap .u64 (wrap64 (32 * (Int.tmod b 2))))))) (wrap64 (b + 1))).map bg.enc) else (none)) else (none)) else (none))) else (none)) else (none)) else (none)) else (none)))) else ((bI.f c).bind fun d => (some (.ro true .u64 d)))) (tc h)⟩
 ·cases h
theorem bg.pts : ∀ k, iV prog (bW f150) (bg.E k) GOk (Fin prog f150) := iI stays mixed bg.fok [(3, bg.p0)] ⟨bg.s0, trivial⟩
theorem bg.ok (k : Nat) : AO 150 (bg.app k) := dZ stays mixed (bg.fok k) (bg.pts k) fun l K r h => by
 dsimp only [bg.app] at h
 split at h
 ·rename_i a
  exact fin (enc := bg.enc) h rfl fun y h => by
   simp only [bg.f] at h
   exact via (if (2 : Int) = 0 then (none) else (if (0 : Int) ≤ wrap64 (Int.tdiv (wrap64 ((a.length : Int) + 1)) 2) then (if (wrap64 (Int.tdiv (wrap64 ((a.length : Int) + 1)) 2) : Int).toNat * 8 ≤ 281474976710656 then ((bg.l0 k a (List.replicate (wrap64 (Int.tdiv (wrap64 ((a.length : Int) + 1)) 2) : Int).toNat 0) 0).map bg.enc) else (none)) else (none))) (tc h)
 ·cases h
def au.enc (r : List Int × Int) : AV := .tup [.ro true .u64 r.1, .v (.int .i64 r.2)]
def au.app (k : Nat) : List AV → (AV → Option AV) → Option AV := fun l K => match l with
 | [.v (.string a)] => (au.f k a).bind fun r => K (au.enc r)
 | _ => none
def au.p0 (k : Nat) : Pt := ⟨[.c [1, 1, 1, 1, 1, 1, 0, 1, 0, 0, 0, 0], .c [1, 1, 1, 1, 1, 1, 0, 1, 0, 0, 0, 1], .c [1, 1, 1, 1, 1, 1, 0, 1, 0, 0, 1], .l [1, 1, 1, 1, 1, 1, 0, 1, 0, 0], .b 0, .c [1, 1, 1, 1, 1, 1, 1]], [(0, none, []), (5, none, []), (6, none, []), (7, none, [])], [], [(4, .u64, 22)], [], fun s => match s with
 | ⟨[(0, .v (.string a)), (5, .v (.int .u64 b)), (6, .v (.int .u64 c)), (7, .v (.int .i64 d)), (4, .own 4)], [(4, .ints .u64 22 e)]⟩ => (au.l0 k a e b c d).map au.enc
 | _ => none⟩
def au.p1 (k : Nat) : Pt := ⟨[.c [1, 1, 1, 1, 1, 1, 0, 1, 0, 0, 1, 0, 0, 1, 1, 1, 1, 0, 1, 0, 1, 0, 0, 0, 0], .c [1, 1, 1, 1, 1, 1, 0, 1, 0, 0, 1, 0, 0, 1, 1, 1, 1, 0, 1, 0, 1, 0, 0, 0, 1], .c [1, 1, 1, 1, 1, 1, 0, 1, 0, 0, 1, 0, 0, 1, 1, 1, 1, 0, 1, 0, 1, 0, 0, 1], .l [1, 1, 1, 1, 1, 1, 0, 1, 0, 0, 1, 0, 0, 1, 1, 1, 1, 0, 1, 0, 1, 0, 0], .b 2, .c [1, 1, 1, 1, 1, 1, 0, 1, 0, 0, 1, 0, 0, 1, 1, 1, 1, 0, 1, 1], .b 1, .c [1, 1, 1, 1, 1, 1, 0, 1, 0, 0, 1, 1], .l [1, 1, 1, 1, 1, 1, 0, 1, 0, 0], .b 0, .c [1, 1, 1, 1, 1, 1, 1]], [(0, none, []), (6, none, []), (7, none, []), (8, none, []), (9, none, [])], [], [(4, .u64, 22)], [], fun s => match s with
 | ⟨[(0, .v (.string a)), (6, .v (.int .u64 b)), (7, .v (.int .i64 c)), (8, .v (.int .u64 d)), (9, .v (.int .i64 e)), (4, .own 4)], [(4, .ints .u64 22 f)]⟩ => (au.l1 k a f b c d e).map au.enc
 | _ => none⟩
def au.p2 (k : Nat) : Pt := ⟨[.c [1, 1, 1, 1, 1, 1, 0, 1, 0, 0, 1, 0, 0, 0, 1], .c [1, 1, 1, 1, 1, 1, 0, 1, 0, 0, 1, 0, 0, 1], .b 1, .c [1, 1, 1, 1, 1, 1, 0, 1, 0, 0, 1, 1], .l [1, 1, 1, 1, 1, 1, 0, 1, 0, 0], .b 0, .c [1, 1, 1, 1, 1, 1, 1]], [(0, none, []), (5, none, []), (6, none, []), (7, none, []), (38, none, [])], [], [(4, .u64, 22)], [], fun s => match s with
 | ⟨[(0, .v (.string a)), (5, .v (.int .u64 b)), (6, .v (.int .u64 c)), (7, .v (.int .i64 d)), (38, .v (.bool e)), (4, .own 4)], [(4, .ints .u64 22 f)]⟩ => (au.j1 k a f b c d e).map au.enc
 | _ => none⟩
def au.p3 (k : Nat) : Pt := ⟨[.c [1, 1, 1, 1, 1, 1, 0, 1, 0, 0, 1, 0, 0, 1, 1, 1, 1], .b 1, .c [1, 1, 1, 1, 1, 1, 0, 1, 0, 0, 1, 1], .l [1, 1, 1, 1, 1, 1, 0, 1, 0, 0], .b 0, .c [1, 1, 1, 1, 1, 1, 1]], [(0, none, []), (5, none, []), (6, none, []), (7, none, []), (58, none, [])], [], [(4, .u64, 22)], [], fun s => match s with
 | ⟨[(0, .v (.string a)), (5, .v (.int .u64 b)), (6, .v (.int .u64 c)), (7, .v (.int .i64 d)), (58, .v (.bool e)), (4, .own 4)], [(4, .ints .u64 22 f)]⟩ => (au.j2 k a f b c d e).map au.enc
 | _ => none⟩
def au.E (k : Nat) : Env := ⟨93, tys, [(150, bg.app k)], [(9, au.p0 k), (18, au.p1 k), (100038, au.p2 k), (100058, au.p3 k)], [], false, [73, 3], false⟩
theorem au.fok (k : Nat) : FO 66 f66 (bW f66) (au.E k) := fo fG func66 ⟨bg.ok k, trivial⟩
theorem au.s0 : jd f66 au.E au.p0 := fun k s r h => by
 dsimp only [au.p0] at h
 split at h
 ·rename_i a b c d e
  rcases k with _ | k
  ·cases h
  simp only [au.l0] at h
  exact ⟨k, rfl, via (if (decide (d < (a.size : Int))) = true then (if (0 : Int) ≤ d then (if (d : Int) < (a.size : Int) then (if (decide ((bt a d) < 48)) = false then (if (0 : Int) ≤ d then (if (d : Int) < (a.size : Int) then ((au.j1 k a e b c d (decide ((bt a d) > 57))).map au.enc) else (none)) else (none)) else ((au.j1 k a e b c d true).map au.enc)) else (none)) else (none)) else ((bg.f k e).bind fun f => (if (decide ((f.length : Int) > 1024)) = true then (some (.tup [.ro true .u64 ([] : List Int), .v (.int .i64 5)])) else (some (.tup [.ro true .u64 f, .v (.int .i64 0)]))))) (tc h)⟩
 ·cases h
theorem au.s1 : jd f66 au.E au.p1 := fun k s r h => by
 dsimp only [au.p1] at h
 split at h
 ·rename_i a b c d e f
  rcases k with _ | k
  ·cases h
  simp only [au.l1] at h
  exact ⟨k, rfl, via (if (decide (e < (f.length : Int))) = true then (if (0 : Int) ≤ e then (if (e : Int) < (f.length : Int) then (if (0 : Int) ≤ e then (if (e : Int) < (f.length : Int) then (if (0 : Int) ≤ 32 then ((au.l1 k a (f.set (e : Int).toNat (Go.bits .and .u64 (IntKind.wrap .u64 ((IntKind.wrap .u64 ((rd f e) * b)) + d)) 4294967295)) b c (shr .u64 (IntKind.wrap .u64 ((IntKind.wrap .u64 ((rd f e) * b)) + d)) 32) (wrap64 (e + 1))).map au.enc) else (none)) else (none)) else (none)) else (none)) else (none)) else (if (decide (d > 0)) = true then (if (f.length + ([d] : List Int).length) * 8 ≤ 140737488355328 then ((au.l0 k a (f ++ ([d] : List Int)) 0 1 (wrap64 (c + 1))).map au.enc) else (none)) else ((au.l0 k a f 0 1 (wrap64 (c + 1))).map au.enc))) (tc h)⟩
 ·cases h
theorem au.s2 : jd f66 au.E au.p2 := fun k s r h => by
 dsimp only [au.p2] at h
 split at h
 ·rename_i a b c d e f
  rcases k with _ | k
  ·cases h
  simp only [au.j1] at h
  exact ⟨k, rfl, via (if e = true then (some (.tup [.ro true .u64 ([] : List Int), .v (.int .i64 8)])) else (if (0 : Int) ≤ d then (if (d : Int) < (a.size : Int) then (if (9 : Int) = 0 then (none) else (if ((Int.tmod d 9) == 8) = false then ((au.j2 k a f (IntKind.wrap .u64 ((IntKind.wrap .u64 (10 * b)) + (IntKind.wrap .u64 (((bt a d) - 48) % 256)))) (IntKind.wrap .u64 (10 * c)) d (d == (wrap64 ((a.size : Int) - 1)))).map au.enc) else ((au.j2 k a f (IntKind.wrap .u64 ((IntKind.wrap .u64 (10 * b)) + (IntKind.wrap .u64 (((bt a d) - 48) % 256)))) (IntKind.wrap .u64 (10 * c)) d true).map au.enc))) else (none)) else (none))) (tc h)⟩
 ·cases h
theorem au.s3 : jd f66 au.E au.p3 := fun k s r h => by
 dsimp only [au.p3] at h
 split at h
 ·rename_i a b c d e f
  rcases k with _ | k
  ·cases h
  simp only [au.j2] at h
  exact ⟨k, rfl, via (if e = true then ((au.l1 k a f c d b 0).map au.enc) else ((au.l0 k a f b c (wrap64 (d + 1))).map au.enc)) (tc h)⟩
 ·cases h
theorem au.pts : ∀ k, iV prog (bW f66) (au.E k) GOk (Fin prog f66) := iI stays mixed au.fok [(9, au.p0), (18, au.p1), (100038, au.p2), (100058, au.p3)] ⟨au.s0, au.s1, au.s2, au.s3, trivial⟩
theorem au.ok (k : Nat) : AO 66 (au.app k) := dZ stays mixed (au.fok k) (au.pts k) fun l K r h => by
 dsimp only [au.app] at h
 split at h
 ·rename_i a
  exact fin (enc := au.enc) h rfl fun y h => by
   simp only [au.f] at h
   exact via (if (decide ((a.size : Int) > 20000)) = true then (some (.tup [.ro true .u64 ([] : List Int), .v (.int .i64 5)])) else (if ((a.size : Int) == 0) = true then (some (.tup [.ro true .u64 ([] : List Int), .v (.int .i64 8)])) else (if (9 : Int) = 0 then (none) else (if (0 : Int) = 0 then (if (0 : Int) ≤ wrap64 ((wrap64 (Int.tdiv (a.size : Int) 9)) + 2) then (if (wrap64 ((wrap64 (Int.tdiv (a.size : Int) 9)) + 2) : Int).toNat * 8 ≤ 281474976710656 then ((au.l0 k a ([] : List Int) 0 1 0).map au.enc) else (none)) else (none)) else (none))))) (tc h)
 ·cases h
def dJ.enc (r : Int) : AV := .v (.int .u64 r)
def dJ.app : List AV → (AV → Option AV) → Option AV := fun l K => match l with
 | [.v (.int .i64 a), .v (.int .u64 b)] => (dJ.f a b).bind fun r => K (dJ.enc r)
 | _ => none
def dJ.E : Env := ⟨8, tys, [(149, bK.app)], [], [], false, [22], false⟩
theorem dJ.fok : FO 67 f67 (bW f67) (dJ.E) := fo fG func67 ⟨bK.ok, trivial⟩
theorem dJ.ok : AO 67 (dJ.app) := dZ stays mixed (dJ.fok) (dY rfl) fun l K r h => by
 dsimp only [dJ.app] at h
 split at h
 ·rename_i a b
  exact fin (enc := dJ.enc) h rfl fun y h => by
   simp only [dJ.f] at h
   exact via ((bK.f a b 0 0).bind fun c => (some (.v (.int .u64 c)))) (tc h)
 ·cases h
def aK.enc (r : Int) : AV := .v (.int .i64 r)
def aK.app (k : Nat) : List AV → (AV → Option AV) → Option AV := fun l K => match l with
 | [.ro false .u64 a] => (aK.f k a).bind fun r => K (aK.enc r)
 | _ => none
def aK.p0 (k : Nat) : Pt := ⟨[.c [1, 1, 0, 0, 0, 0, 0], .c [1, 1, 0, 0, 0, 0, 1], .c [1, 1, 0, 0, 0, 1], .l [1, 1, 0, 0, 0], .b 0, .c [1, 1, 1]], [(0, some .u64, [false]), (3, none, [])], [], [], [], fun s => match s with
 | ⟨[(0, .ro false .u64 a), (3, .v (.int .i64 b))], []⟩ => (aK.l0 k a b).map aK.enc
 | _ => none⟩
def aK.E (k : Nat) : Env := ⟨19, tys, [], [(2, aK.p0 k)], [], false, [3], false⟩
theorem aK.fok (k : Nat) : FO 151 f151 (bW f151) (aK.E k) := fo fG func151 trivial
theorem aK.s0 : jd f151 aK.E aK.p0 := fun k s r h => by
 dsimp only [aK.p0] at h
 split at h
 ·rename_i a b
  rcases k with _ | k
  ·cases h
  simp only [aK.l0] at h
  exact ⟨k, rfl, via (if (decide (b > 0)) = true then (if (0 : Int) ≤ wrap64 (b - 1) then (if (wrap64 (b - 1) : Int) < (a.length : Int) then (if ((rd a (wrap64 (b - 1))) == 0) = true then ((aK.l0 k a (wrap64 (b - 1))).map aK.enc) else (some (.v (.int .i64 b)))) else (none)) else (none)) else (some (.v (.int .i64 b)))) (tc h)⟩
 ·cases h
theorem aK.pts : ∀ k, iV prog (bW f151) (aK.E k) GOk (Fin prog f151) := iI stays mixed aK.fok [(2, aK.p0)] ⟨aK.s0, trivial⟩
theorem aK.ok (k : Nat) : AO 151 (aK.app k) := dZ stays mixed (aK.fok k) (aK.pts k) fun l K r h => by
 dsimp only [aK.app] at h
 split at h
 ·rename_i a
  exact fin (enc := aK.enc) h rfl fun y h => by
   simp only [aK.f] at h
   exact via ((aK.l0 k a (a.length : Int)).map aK.enc) (tc h)
 ·cases h
def bf.enc (r : List Int) : AV := .new 22 .u64 r
def bf.app (k : Nat) : List AV → (AV → Option AV) → Option AV := fun l K => match l with
 | [.ro false .u64 a] => (bf.f k a).bind fun r => K (bf.enc r)
 | _ => none
def bf.p0 (k : Nat) : Pt := ⟨[.c [1, 1, 1, 0, 1, 0, 0, 0, 0], .c [1, 1, 1, 0, 1, 0, 0, 0, 1], .c [1, 1, 1, 0, 1, 0, 0, 1], .l [1, 1, 1, 0, 1, 0, 0], .b 0, .c [1, 1, 1, 1]], [(0, some .u64, [false]), (3, none, []), (5, none, []), (2, some .u64, [])], [], [(4, .u64, 22)], [], fun s => match s with
 | ⟨[(0, .ro false .u64 a), (3, .v (.int .i64 b)), (5, .v (.int .i64 c)), (2, .ro true .u64 []), (4, .own 4)], [(4, .ints .u64 22 d)]⟩ => (bf.l0 k a b d c).map bf.enc
 | _ => none⟩
def bf.E (k : Nat) : Env := ⟨36, tys, [(151, aK.app k)], [(4, bf.p0 k)], [], false, [73], true⟩
theorem bf.fok (k : Nat) : FO 152 f152 (bW f152) (bf.E k) := fo fG func152 ⟨aK.ok k, trivial⟩
theorem bf.s0 : jd f152 bf.E bf.p0 := fun k s r h => by
 dsimp only [bf.p0] at h
 split at h
 ·rename_i a b c d
  rcases k with _ | k
  ·cases h
  simp only [bf.l0] at h
  exact ⟨k, rfl, via (if (decide (c < b)) = true then (if (0 : Int) ≤ c then (if (c : Int) < (a.length : Int) then (if (0 : Int) ≤ wrap64 (2 * c) then (if (wrap64 (2 * c) : Int) < (d.length : Int) then (if (0 : Int) ≤ c then (if (c : Int) < (a.length : Int) then (if (0 : Int) ≤ 32 then (if (0 : Int) ≤ wrap64 ((wrap64 (2 * c)) + 1) then (if (wrap64 ((wrap64 (2 * c)) + 1) : Int) < ((d.set (wrap64 (2 * c) : Int).toNat (Go.bits .and .u64 (rd a c) 4294967295)).length : Int) then ((bf.l0 k a b ((d.set (wrap64 (2 * c) : Int).toNat (Go.bits .and .u64 (rd a c) 4294967295)).set (wrap64 ((wrap64 (2 * c)) + 1) : Int).toNat (shr .u64 (rd a c) 32)) (wrap64 (c + 1))).map bf.enc) else (none)) else (none)) else (none)) else (none)) else (none)) else (none)) else (none)) else (none)) else (none)) else (some (.new 22 .u64 d))) (tc h)⟩
 ·cases h
theorem bf.pts : ∀ k, iV prog (bW f152) (bf.E k) GOk (Fin prog f152) := iI stays mixed bf.fok [(4, bf.p0)] ⟨bf.s0, trivial⟩
theorem bf.ok (k : Nat) : AO 152 (bf.app k) := dZ stays mixed (bf.fok k) (bf.pts k) fun l K r h => by
 dsimp only [bf.app] at h
 split at h
 ·rename_i a
  exact fin (enc := bf.enc) h rfl fun y h => by
   simp only [bf.f] at h
   exact via ((aK.f k a).bind fun b => (if (0 : Int) ≤ wrap64 (2 * b) then (if (wrap64 (2 * b) : Int).toNat * 8 ≤ 281474976710656 then ((bf.l0 k a b (List.replicate (wrap64 (2 * b) : Int).toNat 0) 0).map bf.enc) else (none)) else (none))) (tc h)
 ·cases h
def aj.enc (r : ByteArray × Int) : AV := .tup [.v (.string r.1), .v (.int .i64 r.2)]
def aj.app (k : Nat) : List AV → (AV → Option AV) → Option AV := fun l K => match l with
 | [.ro false .u64 a] => (aj.f k a).bind fun r => K (aj.enc r)
 | _ => none
def aj.p0 (k : Nat) : Pt := ⟨[.c [1, 1, 1, 1, 1, 1, 0, 0, 0, 0, 0], .c [1, 1, 1, 1, 1, 1, 0, 0, 0, 0, 1], .c [1, 1, 1, 1, 1, 1, 0, 0, 0, 1], .l [1, 1, 1, 1, 1, 1, 0, 0, 0], .b 0, .c [1, 1, 1, 1, 1, 1, 1]], [(6, none, [])], [], [(4, .u64, 22), (5, .u8, 5)], [], fun s => match s with
 | ⟨[(6, .v (.int .i64 a)), (4, .own 4), (5, .own 5)], [(4, .ints .u64 22 b), (5, .ints .u8 5 c)]⟩ => (aj.l0 k b c a).map aj.enc
 | _ => none⟩
def aj.p1 (k : Nat) : Pt := ⟨[.c [1, 1, 1, 1, 1, 1, 0, 0, 0, 1, 0, 1, 0, 1, 0, 0, 0, 0], .c [1, 1, 1, 1, 1, 1, 0, 0, 0, 1, 0, 1, 0, 1, 0, 0, 0, 1], .c [1, 1, 1, 1, 1, 1, 0, 0, 0, 1, 0, 1, 0, 1, 0, 0, 1], .l [1, 1, 1, 1, 1, 1, 0, 0, 0, 1, 0, 1, 0, 1, 0, 0], .b 2, .c [1, 1, 1, 1, 1, 1, 0, 0, 0, 1, 0, 1, 1], .b 1, .l [1, 1, 1, 1, 1, 1, 0, 0, 0], .b 0, .c [1, 1, 1, 1, 1, 1, 1]], [(6, none, []), (7, none, []), (8, none, [])], [], [(4, .u64, 22), (5, .u8, 5)], [], fun s => match s with
 | ⟨[(6, .v (.int .i64 a)), (7, .v (.int .u64 b)), (8, .v (.int .i64 c)), (4, .own 4), (5, .own 5)], [(4, .ints .u64 22 d), (5, .ints .u8 5 e)]⟩ => (aj.l1 k d e a b c).map aj.enc
 | _ => none⟩
def aj.p2 (k : Nat) : Pt := ⟨[.c [1, 1, 1, 1, 1, 1, 0, 0, 0, 1, 0, 1, 1, 0, 0, 0, 0, 0], .c [1, 1, 1, 1, 1, 1, 0, 0, 0, 1, 0, 1, 1, 0, 0, 0, 0, 1], .c [1, 1, 1, 1, 1, 1, 0, 0, 0, 1, 0, 1, 1, 0, 0, 0, 1], .l [1, 1, 1, 1, 1, 1, 0, 0, 0, 1, 0, 1, 1, 0, 0, 0], .b 4, .c [1, 1, 1, 1, 1, 1, 0, 0, 0, 1, 0, 1, 1, 1], .b 1, .l [1, 1, 1, 1, 1, 1, 0, 0, 0], .b 0, .c [1, 1, 1, 1, 1, 1, 1]], [(6, none, []), (7, none, [])], [], [(4, .u64, 22), (5, .u8, 5)], [], fun s => match s with
 | ⟨[(6, .v (.int .i64 a)), (7, .v (.int .u64 b)), (4, .own 4), (5, .own 5)], [(4, .ints .u64 22 c), (5, .ints .u8 5 d)]⟩ => (aj.l2 k c d a b).map aj.enc
 | _ => none⟩
def aj.p3 (k : Nat) : Pt := ⟨[.c [1, 1, 1, 1, 1, 1, 0, 0, 0, 1, 0, 1, 1, 1, 0], .c [1, 1, 1, 1, 1, 1, 0, 0, 0, 1, 0, 1, 1, 1, 1], .b 1, .l [1, 1, 1, 1, 1, 1, 0, 0, 0], .b 0, .c [1, 1, 1, 1, 1, 1, 1]], [(6, none, []), (7, none, [])], [], [(4, .u64, 22), (5, .u8, 5)], [], fun s => match s with
 | ⟨[(6, .v (.int .i64 a)), (7, .v (.int .u64 b)), (4, .own 4), (5, .own 5)], [(4, .ints .u64 22 c), (5, .ints .u8 5 d)]⟩ => (aj.j3 k c d a b).map aj.enc
 | _ => none⟩
def aj.p4 (k : Nat) : Pt := ⟨[.c [1, 1, 1, 1, 1, 1, 0, 0, 0, 1, 0, 1, 1, 1, 1, 0, 0, 0, 0], .c [1, 1, 1, 1, 1, 1, 0, 0, 0, 1, 0, 1, 1, 1, 1, 0, 0, 0, 1], .c [1, 1, 1, 1, 1, 1, 0, 0, 0, 1, 0, 1, 1, 1, 1, 0, 0, 1], .l [1, 1, 1, 1, 1, 1, 0, 0, 0, 1, 0, 1, 1, 1, 1, 0, 0], .b 6, .b 1, .l [1, 1, 1, 1, 1, 1, 0, 0, 0], .b 0, .c [1, 1, 1, 1, 1, 1, 1]], [(6, none, []), (7, none, []), (10, none, [])], [], [(4, .u64, 22), (5, .u8, 5)], [], fun s => match s with
 | ⟨[(6, .v (.int .i64 a)), (7, .v (.int .u64 b)), (10, .v (.int .i64 c)), (4, .own 4), (5, .own 5)], [(4, .ints .u64 22 d), (5, .ints .u8 5 e)]⟩ => (aj.l3 k d e a b c).map aj.enc
 | _ => none⟩
def aj.p5 (k : Nat) : Pt := ⟨[.c [1, 1, 1, 1, 1, 1, 1, 1, 0, 1, 0, 0, 0, 0], .c [1, 1, 1, 1, 1, 1, 1, 1, 0, 1, 0, 0, 0, 1], .c [1, 1, 1, 1, 1, 1, 1, 1, 0, 1, 0, 0, 1], .l [1, 1, 1, 1, 1, 1, 1, 1, 0, 1, 0, 0], .b 8, .c [1, 1, 1, 1, 1, 1, 1, 1, 1]], [(12, none, [])], [], [(5, .u8, 5), (11, .u8, 5)], [], fun s => match s with
 | ⟨[(12, .v (.int .i64 a)), (5, .own 5), (11, .own 11)], [(5, .ints .u8 5 b), (11, .ints .u8 5 c)]⟩ => (aj.l4 k b c a).map aj.enc
 | _ => none⟩
def aj.E (k : Nat) : Env := ⟨100, tys, [(151, aK.app k), (152, bf.app k)], [(8, aj.p0 k), (11, aj.p1 k), (16, aj.p2 k), (18, aj.p3 k), (19, aj.p4 k), (25, aj.p5 k)], [], false, [9, 3], false⟩
theorem aj.fok (k : Nat) : FO 68 f68 (bW f68) (aj.E k) := fo fG func68 ⟨aK.ok k, ⟨bf.ok k, trivial⟩⟩
theorem aj.s0 : jd f68 aj.E aj.p0 := fun k s r h => by
 dsimp only [aj.p0] at h
 split at h
 ·rename_i a b c
  rcases k with _ | k
  ·cases h
  simp only [aj.l0] at h
  exact ⟨k, rfl, via (if (decide (a > 0)) = true then ((aj.l1 k b c a 0 (wrap64 (a - 1))).map aj.enc) else (if (0 : Int) ≤ (c.length : Int) then (if ((c.length : Int) : Int).toNat * 1 ≤ 281474976710656 then ((aj.l4 k c (List.replicate ((c.length : Int) : Int).toNat 0) 0).map aj.enc) else (none)) else (none))) (tc h)⟩
 ·cases h
theorem aj.s1 : jd f68 aj.E aj.p1 := fun k s r h => by
 dsimp only [aj.p1] at h
 split at h
 ·rename_i a b c d e
  rcases k with _ | k
  ·cases h
  simp only [aj.l1] at h
  exact ⟨k, rfl, via (if (decide (c ≥ 0)) = true then (if (0 : Int) ≤ 32 then (if (0 : Int) ≤ c then (if (c : Int) < (d.length : Int) then (if (1000000000 : Int) = 0 then (none) else (if (0 : Int) ≤ c then (if (c : Int) < (d.length : Int) then (if (1000000000 : Int) = 0 then (none) else ((aj.l1 k (d.set (c : Int).toNat (IntKind.wrap .u64 (Int.tdiv (Go.bits .or .u64 (shl .u64 b 32) (rd d c)) 1000000000))) e a (Int.tmod (Go.bits .or .u64 (shl .u64 b 32) (rd d c)) 1000000000) (wrap64 (c - 1))).map aj.enc)) else (none)) else (none))) else (none)) else (none)) else (none)) else ((aj.l2 k d e a b).map aj.enc)) (tc h)⟩
 ·cases h
theorem aj.s2 : jd f68 aj.E aj.p2 := fun k s r h => by
 dsimp only [aj.p2] at h
 split at h
 ·rename_i a b c d
  rcases k with _ | k
  ·cases h
  simp only [aj.l2] at h
  exact ⟨k, rfl, via (if (decide (a > 0)) = true then (if (0 : Int) ≤ wrap64 (a - 1) then (if (wrap64 (a - 1) : Int) < (c.length : Int) then (if ((rd c (wrap64 (a - 1))) == 0) = true then ((aj.l2 k c d (wrap64 (a - 1)) b).map aj.enc) else ((aj.j3 k c d a b).map aj.enc)) else (none)) else (none)) else ((aj.j3 k c d a b).map aj.enc)) (tc h)⟩
 ·cases h
theorem aj.s3 : jd f68 aj.E aj.p3 := fun k s r h => by
 dsimp only [aj.p3] at h
 split at h
 ·rename_i a b c d
  rcases k with _ | k
  ·cases h
  simp only [aj.j3] at h
  exact ⟨k, rfl, via ((aj.l3 k c d a b 0).map aj.enc) (tc h)⟩
 ·cases h
theorem aj.s4 : jd f68 aj.E aj.p4 := fun k s r h => by
 dsimp only [aj.p4] at h
 split at h
 ·rename_i a b c d e
  rcases k with _ | k
  ·cases h
  simp only [aj.l3] at h
  exact ⟨k, rfl, via (if (decide (c < 9)) = true then (if (decide (a > 0)) = false then (if (decide (b > 0)) = true then (if (10 : Int) = 0 then (none) else (if (e.length + ([(IntKind.wrap .u64 (48 + (Int.tmod b 10))) % 256] : List Int).length) * 1 ≤ 140737488355328 then (if (10 : Int) = 0 then (none) else ((aj.l3 k d (e ++ ([(IntKind.wrap .u64 (48 + (Int.tmod b 10))) % 256] : List Int)) a (IntKind.wrap .u64 (Int.tdiv b 10)) (wrap64 (c + 1))).map aj.enc)) else (none))) else ((aj.l0 k d e a).map aj.enc)) else (if (10 : Int) = 0 then (none) else (if (e.length + ([(IntKind.wrap .u64 (48 + (Int.tmod b 10))) % 256] : List Int).length) * 1 ≤ 140737488355328 then (if (10 : Int) = 0 then (none) else ((aj.l3 k d (e ++ ([(IntKind.wrap .u64 (48 + (Int.tmod b 10))) % 256] : List Int)) a (IntKind.wrap .u64 (Int.tdiv b 10)) (wrap64 (c + 1))).map aj.enc)) else (none)))) else ((aj.l0 k d e a).map aj.enc)) (tc h)⟩
 ·cases h
theorem aj.s5 : jd f68 aj.E aj.p5 := fun k s r h => by
 dsimp only [aj.p5] at h
 split at h
 ·rename_i a b c
  rcases k with _ | k
  ·cases h
  simp only [aj.l4] at h
  exact ⟨k, rfl, via (if (decide (a < (b.length : Int))) = true then (if (0 : Int) ≤ wrap64 ((wrap64 ((b.length : Int) - 1)) - a) then (if (wrap64 ((wrap64 ((b.length : Int) - 1)) - a) : Int) < (b.length : Int) then (if (0 : Int) ≤ a then (if (a : Int) < (c.length : Int) then ((aj.l4 k b (c.set (a : Int).toNat (rd b (wrap64 ((wrap64 ((b.length : Int) - 1)) - a)))) (wrap64 (a + 1))).map aj.enc) else (none)) else (none)) else (none)) else (none)) else (some (.tup [.v (.string (strOfNums c)), .v (.int .i64 0)]))) (tc h)⟩
 ·cases h
theorem aj.pts : ∀ k, iV prog (bW f68) (aj.E k) GOk (Fin prog f68) := iI stays mixed aj.fok [(8, aj.p0), (11, aj.p1), (16, aj.p2), (18, aj.p3), (19, aj.p4), (25, aj.p5)] ⟨aj.s0, aj.s1, aj.s2, aj.s3, aj.s4, aj.s5, trivial⟩
theorem aj.ok (k : Nat) : AO 68 (aj.app k) := dZ stays mixed (aj.fok k) (aj.pts k) fun l K r h => by
 dsimp only [aj.app] at h
 split at h
 ·rename_i a
  exact fin (enc := aj.enc) h rfl fun y h => by
   simp only [aj.f] at h
   exact via ((aK.f k a).bind fun b => (if (decide (b > 1024)) = true then (some (.tup [.v (.string (⟨#[]⟩ : ByteArray)), .v (.int .i64 5)])) else ((aK.f k a).bind fun c => (if (c == 0) = true then (some (.tup [.v (.string (⟨#[48]⟩ : ByteArray)), .v (.int .i64 0)])) else ((bf.f k a).bind fun d => ((aj.l0 k d ([] : List Int) (d.length : Int)).map aj.enc)))))) (tc h)
 ·cases h
def aG.enc (r : List Int) : AV := .ro true .u64 r
def aG.app (k : Nat) : List AV → (AV → Option AV) → Option AV := fun l K => match l with
 | [.ro false .u64 a, .ro false .u64 b] => (aG.f k a b).bind fun r => K (aG.enc r)
 | _ => none
def aG.p0 (k : Nat) : Pt := ⟨[.c [1, 1, 1, 1, 0, 1, 0, 0, 0, 0], .c [1, 1, 1, 1, 0, 1, 0, 0, 0, 1], .c [1, 1, 1, 1, 0, 1, 0, 0, 1], .l [1, 1, 1, 1, 0, 1, 0, 0], .b 0, .c [1, 1, 1, 1, 1]], [(5, some .u64, []), (6, some .u64, []), (8, none, []), (4, some .u64, [])], [], [(7, .u64, 22)], [], fun s => match s with
 | ⟨[(5, .ro true .u64 a), (6, .ro true .u64 b), (8, .v (.int .i64 c)), (4, .ro true .u64 []), (7, .own 7)], [(7, .ints .u64 22 d)]⟩ => (aG.l0 k a b d c).map aG.enc
 | _ => none⟩
def aG.p1 (k : Nat) : Pt := ⟨[.c [1, 1, 1, 1, 0, 1, 0, 0, 1, 0, 0, 1, 0, 1, 0, 0, 0, 0], .c [1, 1, 1, 1, 0, 1, 0, 0, 1, 0, 0, 1, 0, 1, 0, 0, 0, 1], .c [1, 1, 1, 1, 0, 1, 0, 0, 1, 0, 0, 1, 0, 1, 0, 0, 1], .l [1, 1, 1, 1, 0, 1, 0, 0, 1, 0, 0, 1, 0, 1, 0, 0], .b 2, .c [1, 1, 1, 1, 0, 1, 0, 0, 1, 0, 0, 1, 1], .b 1, .c [1, 1, 1, 1, 0, 1, 0, 0, 1, 1], .l [1, 1, 1, 1, 0, 1, 0, 0], .b 0, .c [1, 1, 1, 1, 1]], [(5, some .u64, []), (6, some .u64, []), (8, none, []), (9, none, []), (10, none, []), (4, some .u64, [])], [], [(7, .u64, 22)], [], fun s => match s with
 | ⟨[(5, .ro true .u64 a), (6, .ro true .u64 b), (8, .v (.int .i64 c)), (9, .v (.int .u64 d)), (10, .v (.int .i64 e)), (4, .ro true .u64 []), (7, .own 7)], [(7, .ints .u64 22 f)]⟩ => (aG.l1 k a b f c d e).map aG.enc
 | _ => none⟩
def aG.E (k : Nat) : Env := ⟨73, tys, [(152, bf.app k), (150, bg.app k)], [(5, aG.p0 k), (9, aG.p1 k)], [(11, [0, 1, 2, 3, 4, 5, 6, 7, 8, 9, 10, 11, 12, 13, 14, 15, 16, 17, 18])], false, [73], false⟩
theorem aG.fok (k : Nat) : FO 153 f153 (bW f153) (aG.E k) := fo fG func153 ⟨bf.ok k, ⟨bg.ok k, trivial⟩⟩
theorem aG.s0 : jd f153 aG.E aG.p0 := fun k s r h => by
 dsimp only [aG.p0] at h
 split at h
 ·rename_i a b c d
  rcases k with _ | k
  ·cases h
  simp only [aG.l0] at h
  exact ⟨k, rfl, via (if (decide (c < (a.length : Int))) = true then ((aG.l1 k a b d c 0 0).map aG.enc) else ((bg.f k d).bind fun e => (some (.ro true .u64 e)))) (tc h)⟩
 ·cases h
theorem aG.s1 : jd f153 aG.E aG.p1 := fun k s r h => by
 dsimp only [aG.p1] at h
 split at h
 ·rename_i a b c d e f
  rcases k with _ | k
  ·cases h
  simp only [aG.l1] at h
  exact ⟨k, rfl, via (if (decide (e < (b.length : Int))) = true then (if (0 : Int) ≤ c then (if (c : Int) < (a.length : Int) then (if (0 : Int) ≤ e then (if (e : Int) < (b.length : Int) then (if (0 : Int) ≤ wrap64 (c + e) then (if (wrap64 (c + e) : Int) < (f.length : Int) then (if (0 : Int) ≤ wrap64 (c + e) then (if (wrap64 (c + e) : Int) < (f.length : Int) then (if (0 : Int) ≤ 32 then ((aG.l1 k a b (f.set (wrap64 (c + e) : Int).toNat (Go.bits .and .u64 (IntKind.wrap .u64 ((IntKind.wrap .u64 ((IntKind.wrap .u64 ((rd a c) * (rd b e))) + (rd f (wrap64 (c + e))))) + d)) 4294967295)) c (shr .u64 (IntKind.wrap .u64 ((IntKind.wrap .u64 ((IntKind.wrap .u64 ((rd a c) * (rd b e))) + (rd f (wrap64 (c + e))))) + d)) 32) (wrap64 (e + 1))).map aG.enc) else (none)) else (none)) else (none)) else (none)) else (none)) else (none)) else (none)) else (none)) else (none)) else (if (decide ((b.length : Int) > 0)) = true then (if (0 : Int) ≤ wrap64 (c + (b.length : Int)) then (if (wrap64 (c + (b.length : Int)) : Int) < (f.length : Int) then ((aG.l0 k a b (f.set (wrap64 (c + (b.length : Int)) : Int).toNat d) (wrap64 (c + 1))).map aG.enc) else (none)) else (none)) else ((aG.l0 k a b f (wrap64 (c + 1))).map aG.enc))) (tc h)⟩
 ·cases h
theorem aG.pts : ∀ k, iV prog (bW f153) (aG.E k) GOk (Fin prog f153) := iI stays mixed aG.fok [(5, aG.p0), (9, aG.p1)] ⟨aG.s0, aG.s1, trivial⟩
theorem aG.ok (k : Nat) : AO 153 (aG.app k) := dZ stays mixed (aG.fok k) (aG.pts k) fun l K r h => by
 dsimp only [aG.app] at h
 split at h
 ·rename_i a b
  exact fin (enc := aG.enc) h rfl fun y h => by
   simp only [aG.f] at h
   exact via ((bf.f k a).bind fun c => ((bf.f k b).bind fun d => (if (0 : Int) ≤ wrap64 ((c.length : Int) + (d.length : Int)) then (if (wrap64 ((c.length : Int) + (d.length : Int)) : Int).toNat * 8 ≤ 281474976710656 then ((aG.l0 k c d (List.replicate (wrap64 ((c.length : Int) + (d.length : Int)) : Int).toNat 0) 0).map aG.enc) else (none)) else (none)))) (tc h)
 ·cases h
def dS.enc (r : List Int) : AV := .ro true .u64 r
def dS.app (k : Nat) : List AV → (AV → Option AV) → Option AV := fun l K => match l with
 | [.ro false .u64 a, .ro false .u64 b] => (dS.f k a b).bind fun r => K (dS.enc r)
 | _ => none
def dS.E (k : Nat) : Env := ⟨8, tys, [(153, aG.app k)], [], [], false, [73], false⟩
theorem dS.fok (k : Nat) : FO 69 f69 (bW f69) (dS.E k) := fo fG func69 ⟨aG.ok k, trivial⟩
theorem dS.ok (k : Nat) : AO 69 (dS.app k) := dZ stays mixed (dS.fok k) (dY rfl) fun l K r h => by
 dsimp only [dS.app] at h
 split at h
 ·rename_i a b
  exact fin (enc := dS.enc) h rfl fun y h => by
   simp only [dS.f] at h
   exact via ((aG.f k a b).bind fun c => (some (.ro true .u64 c))) (tc h)
 ·cases h
def aH.enc (r : List Int × Int) : AV := .tup [.ro true .u64 r.1, .v (.int .i64 r.2)]
def aH.app (k : Nat) : List AV → (AV → Option AV) → Option AV := fun l K => match l with
 | [.v (.int .u64 a), .v (.int .i64 b)] => (aH.f k a b).bind fun r => K (aH.enc r)
 | _ => none
def aH.p0 (k : Nat) : Pt := ⟨[.c [1, 1, 1, 0, 1, 0, 0, 0, 0], .c [1, 1, 1, 0, 1, 0, 0, 0, 1], .c [1, 1, 1, 0, 1, 0, 0, 1], .l [1, 1, 1, 0, 1, 0, 0], .b 0, .c [1, 1, 1, 1]], [(0, none, []), (1, none, []), (6, some .u64, []), (7, none, [])], [], [], [], fun s => match s with
 | ⟨[(0, .v (.int .u64 a)), (1, .v (.int .i64 b)), (6, .ro true .u64 c), (7, .v (.int .i64 d))], []⟩ => (aH.l0 k a b c d).map aH.enc
 | _ => none⟩
def aH.p1 (k : Nat) : Pt := ⟨[.c [1, 0, 1], .c [1, 1]], [(0, none, []), (1, none, []), (13, none, [])], [], [], [], fun s => match s with
 | ⟨[(0, .v (.int .u64 a)), (1, .v (.int .i64 b)), (13, .v (.bool c))], []⟩ => (aH.j0 k a b c).map aH.enc
 | _ => none⟩
def aH.p2 (k : Nat) : Pt := ⟨[.c [1, 1, 1, 0, 1, 0, 0, 0, 1], .c [1, 1, 1, 0, 1, 0, 0, 1], .l [1, 1, 1, 0, 1, 0, 0], .b 0, .c [1, 1, 1, 1]], [(0, none, []), (1, none, []), (6, some .u64, []), (7, none, []), (21, none, [])], [], [], [], fun s => match s with
 | ⟨[(0, .v (.int .u64 a)), (1, .v (.int .i64 b)), (6, .ro true .u64 c), (7, .v (.int .i64 d)), (21, .v (.bool e))], []⟩ => (aH.j2 k a b c d e).map aH.enc
 | _ => none⟩
def aH.E (k : Nat) : Env := ⟨36, tys, [(153, aG.app k)], [(5, aH.p0 k), (100013, aH.p1 k), (100021, aH.p2 k)], [], false, [73, 3], false⟩
theorem aH.fok (k : Nat) : FO 95 f95 (bW f95) (aH.E k) := fo fG func95 ⟨aG.ok k, trivial⟩
theorem aH.s0 : jd f95 aH.E aH.p0 := fun k s r h => by
 dsimp only [aH.p0] at h
 split at h
 ·rename_i a b c d
  rcases k with _ | k
  ·cases h
  simp only [aH.l0] at h
  exact ⟨k, rfl, via (if (decide (d < b)) = true then ((aH.j2 k a b c d (a != 1)).map aH.enc) else ((aH.j2 k a b c d false).map aH.enc)) (tc h)⟩
 ·cases h
theorem aH.s1 : jd f95 aH.E aH.p1 := fun k s r h => by
 dsimp only [aH.p1] at h
 split at h
 ·rename_i a b c
  rcases k with _ | k
  ·cases h
  simp only [aH.j0] at h
  exact ⟨k, rfl, via (if c = true then (some (.tup [.ro true .u64 ([] : List Int), .v (.int .i64 7)])) else ((aH.l0 k a b ([1] : List Int) 0).map aH.enc)) (tc h)⟩
 ·cases h
theorem aH.s2 : jd f95 aH.E aH.p2 := fun k s r h => by
 dsimp only [aH.p2] at h
 split at h
 ·rename_i a b c d e
  rcases k with _ | k
  ·cases h
  simp only [aH.j2] at h
  exact ⟨k, rfl, via (if e = true then ((aG.f k c ([a] : List Int)).bind fun f => (if (decide ((f.length : Int) > 1024)) = true then (some (.tup [.ro true .u64 ([] : List Int), .v (.int .i64 5)])) else (if ((f.length : Int) == 0) = true then (some (.tup [.ro true .u64 f, .v (.int .i64 0)])) else ((aH.l0 k a b f (wrap64 (d + 1))).map aH.enc)))) else (some (.tup [.ro true .u64 c, .v (.int .i64 0)]))) (tc h)⟩
 ·cases h
theorem aH.pts : ∀ k, iV prog (bW f95) (aH.E k) GOk (Fin prog f95) := iI stays mixed aH.fok [(5, aH.p0), (100013, aH.p1), (100021, aH.p2)] ⟨aH.s0, aH.s1, aH.s2, trivial⟩
theorem aH.ok (k : Nat) : AO 95 (aH.app k) := dZ stays mixed (aH.fok k) (aH.pts k) fun l K r h => by
 dsimp only [aH.app] at h
 split at h
 ·rename_i a b
  exact fin (enc := aH.enc) h rfl fun y h => by
   simp only [aH.f] at h
   exact via (if (decide (b < 0)) = false then ((aH.j0 k a b (decide (b > 20000))).map aH.enc) else ((aH.j0 k a b true).map aH.enc)) (tc h)
 ·cases h
def dU.enc (r : List Int) : AV := .ro true .u64 r
def dU.app (k : Nat) : List AV → (AV → Option AV) → Option AV := fun l K => match l with
 | [.v (.int .i64 a)] => (dU.f k a).bind fun r => K (dU.enc r)
 | _ => none
def dU.E (k : Nat) : Env := ⟨11, tys, [(95, aH.app k)], [], [], false, [73], false⟩
theorem dU.fok (k : Nat) : FO 70 f70 (bW f70) (dU.E k) := fo fG func70 ⟨aH.ok k, trivial⟩
theorem dU.ok (k : Nat) : AO 70 (dU.app k) := dZ stays mixed (dU.fok k) (dY rfl) fun l K r h => by
 dsimp only [dU.app] at h
 split at h
 ·rename_i a
  exact fin (enc := dU.enc) h rfl fun y h => by
   simp only [dU.f] at h
   exact via ((aH.f k 10 a).bind fun b => (some (.ro true .u64 b.1))) (tc h)
 ·cases h
def aY.enc (r : Int) : AV := .v (.int .i64 r)
def aY.app (k : Nat) : List AV → (AV → Option AV) → Option AV := fun l K => match l with
 | [.ro false .u64 a] => (aY.f k a).bind fun r => K (aY.enc r)
 | _ => none
def aY.p0 (k : Nat) : Pt := ⟨[.c [1, 1, 1, 1, 0, 1, 0, 0, 0, 0], .c [1, 1, 1, 1, 0, 1, 0, 0, 0, 1], .c [1, 1, 1, 1, 0, 1, 0, 0, 1], .l [1, 1, 1, 1, 0, 1, 0, 0], .b 0, .c [1, 1, 1, 1, 1]], [(3, none, []), (4, none, []), (5, none, [])], [], [], [], fun s => match s with
 | ⟨[(3, .v (.int .i64 a)), (4, .v (.int .i64 b)), (5, .v (.int .u64 c))], []⟩ => (aY.l0 k a b c).map aY.enc
 | _ => none⟩
def aY.E (k : Nat) : Env := ⟨26, tys, [(151, aK.app k)], [(6, aY.p0 k)], [], false, [3], false⟩
theorem aY.fok (k : Nat) : FO 94 f94 (bW f94) (aY.E k) := fo fG func94 ⟨aK.ok k, trivial⟩
theorem aY.s0 : jd f94 aY.E aY.p0 := fun k s r h => by
 dsimp only [aY.p0] at h
 split at h
 ·rename_i a b c
  rcases k with _ | k
  ·cases h
  simp only [aY.l0] at h
  exact ⟨k, rfl, via (if (decide (c > 0)) = true then (if (0 : Int) ≤ 1 then ((aY.l0 k a (wrap64 (b + 1)) (shr .u64 c 1)).map aY.enc) else (none)) else (some (.v (.int .i64 (wrap64 ((wrap64 (64 * (wrap64 (a - 1)))) + b)))))) (tc h)⟩
 ·cases h
theorem aY.pts : ∀ k, iV prog (bW f94) (aY.E k) GOk (Fin prog f94) := iI stays mixed aY.fok [(6, aY.p0)] ⟨aY.s0, trivial⟩
theorem aY.ok (k : Nat) : AO 94 (aY.app k) := dZ stays mixed (aY.fok k) (aY.pts k) fun l K r h => by
 dsimp only [aY.app] at h
 split at h
 ·rename_i a
  exact fin (enc := aY.enc) h rfl fun y h => by
   simp only [aY.f] at h
   exact via ((aK.f k a).bind fun b => (if (b == 0) = true then (some (.v (.int .i64 0))) else (if (0 : Int) ≤ wrap64 (b - 1) then (if (wrap64 (b - 1) : Int) < (a.length : Int) then ((aY.l0 k b 0 (rd a (wrap64 (b - 1)))).map aY.enc) else (none)) else (none)))) (tc h)
 ·cases h
def b_.enc (r : Int) : AV := .v (.int .u64 r)
def b_.app : List AV → (AV → Option AV) → Option AV := fun l K => match l with
 | [.v (.bool a)] => (b_.f a).bind fun r => K (b_.enc r)
 | _ => none
def b_.E : Env := ⟨4, tys, [], [], [], false, [22], false⟩
theorem b_.fok : FO 155 f155 (bW f155) (b_.E) := fo fG func155 trivial
theorem b_.ok : AO 155 (b_.app) := dZ stays mixed (b_.fok) (dY rfl) fun l K r h => by
 dsimp only [b_.app] at h
 split at h
 ·rename_i a
  exact fin (enc := b_.enc) h rfl fun y h => by
   simp only [b_.f] at h
   exact via (if a = true then (some (.v (.int .u64 1))) else (some (.v (.int .u64 0)))) (tc h)
 ·cases h
def bF.enc (r : List Int) : AV := .ro true .u64 r
def bF.app (k : Nat) : List AV → (AV → Option AV) → Option AV := fun l K => match l with
 | [.ro false .u64 a, .v (.int .i64 b)] => (bF.f k a b).bind fun r => K (bF.enc r)
 | _ => none
def bF.p0 (k : Nat) : Pt := ⟨[.c [1, 1, 1, 0, 1, 0, 0, 0, 0], .c [1, 1, 1, 0, 1, 0, 0, 0, 1], .c [1, 1, 1, 0, 1, 0, 0, 1], .l [1, 1, 1, 0, 1, 0, 0], .b 0, .c [1, 1, 1, 1]], [(0, some .u64, [false]), (1, none, []), (5, none, []), (7, none, []), (4, some .u64, [])], [], [(6, .u64, 22)], [], fun s => match s with
 | ⟨[(0, .ro false .u64 a), (1, .v (.int .i64 b)), (5, .v (.int .i64 c)), (7, .v (.int .i64 d)), (4, .ro true .u64 []), (6, .own 6)], [(6, .ints .u64 22 e)]⟩ => (bF.l0 k a b c e d).map bF.enc
 | _ => none⟩
def bF.E (k : Nat) : Env := ⟨64, tys, [(151, aK.app k), (154, bI.app)], [(4, bF.p0 k)], [(6, [0, 1, 2, 3, 4, 5, 6, 7, 8, 9, 10, 11, 12, 13, 14, 15, 16, 17, 18, 19, 20, 21, 22])], false, [73], false⟩
theorem bF.fok (k : Nat) : FO 219 f219 (bW f219) (bF.E k) := fo fG func219 ⟨aK.ok k, ⟨bI.ok, trivial⟩⟩
theorem bF.s0 : jd f219 bF.E bF.p0 := fun k s r h => by
 dsimp only [bF.p0] at h
 split at h
 ·rename_i a b c d e
  rcases k with _ | k
  ·cases h
  simp only [bF.l0] at h
  exact ⟨k, rfl, via (if (decide (d < c)) = true then (if (64 : Int) = 0 then (none) else (if (64 : Int) = 0 then (none) else (if (0 : Int) ≤ wrap64 (d + (wrap64 (Int.tdiv b 64))) then (if (wrap64 (d + (wrap64 (Int.tdiv b 64))) : Int) < (e.length : Int) then (if (0 : Int) ≤ d then (if (d : Int) < (a.length : Int) then (if (64 : Int) = 0 then (none) else (if (0 : Int) ≤ IntKind.wrap .u64 (Int.tmod b 64) then (if (0 : Int) ≤ wrap64 (d + (wrap64 (Int.tdiv b 64))) then (if (wrap64 (d + (wrap64 (Int.tdiv b 64))) : Int) < (e.length : Int) then (if (64 : Int) = 0 then (none) else (if (decide ((Int.tmod b 64) > 0)) = true then (if (64 : Int) = 0 then (none) else (if (0 : Int) ≤ d then (if (d : Int) < (a.length : Int) then (if (64 : Int) = 0 then (none) else (if (0 : Int) ≤ IntKind.wrap .u64 (wrap64 (64 - (Int.tmod b 64))) then (if (0 : Int) ≤ wrap64 ((wrap64 (d + (wrap64 (Int.tdiv b 64)))) + 1) then (if (wrap64 ((wrap64 (d + (wrap64 (Int.tdiv b 64)))) + 1) : Int) < ((e.set (wrap64 (d + (wrap64 (Int.tdiv b 64))) : Int).toNat (Go.bits .or .u64 (rd e (wrap64 (d + (wrap64 (Int.tdiv b 64))))) (shl .u64 (rd a d) (IntKind.wrap .u64 (Int.tmod b 64))))).length : Int) then ((bF.l0 k a b c ((e.set (wrap64 (d + (wrap64 (Int.tdiv b 64))) : Int).toNat (Go.bits .or .u64 (rd e (wrap64 (d + (wrap64 (Int.tdiv b 64))))) (shl .u64 (rd a d) (IntKind.wrap .u64 (Int.tmod b 64))))).set (wrap64 ((wrap64 (d + (wrap64 (Int.tdiv b 64)))) + 1) : Int).toNat (shr .u64 (rd a d) (IntKind.wrap .u64 (wrap64 (64 - (Int.tmod b 64)))))) (wrap64 (d + 1))).map bF.enc) else (none)) else (none)) else (none))) else (none)) else (none))) else ((bF.l0 k a b c (e.set (wrap64 (d + (wrap64 (Int.tdiv b 64))) : Int).toNat (Go.bits .or .u64 (rd e (wrap64 (d + (wrap64 (Int.tdiv b 64))))) (shl .u64 (rd a d) (IntKind.wrap .u64 (Int.tmod b 64))))) (wrap64 (d + 1))).map bF.enc))) else (none)) else (none)) else (none))) else (none)) else (none)) else (none)) else (none)))) else ((bI.f e).bind fun f => (some (.ro true .u64 f)))) (tc h)⟩
 ·cases h
theorem bF.pts : ∀ k, iV prog (bW f219) (bF.E k) GOk (Fin prog f219) := iI stays mixed bF.fok [(4, bF.p0)] ⟨bF.s0, trivial⟩
theorem bF.ok (k : Nat) : AO 219 (bF.app k) := dZ stays mixed (bF.fok k) (bF.pts k) fun l K r h => by
 dsimp only [bF.app] at h
 split at h
 ·rename_i a b
  exact fin (enc := bF.enc) h rfl fun y h => by
   simp only [bF.f] at h
   exact via ((aK.f k a).bind fun c => (if (64 : Int) = 0 then (none) else (if (0 : Int) ≤ wrap64 ((wrap64 (c + (wrap64 (Int.tdiv b 64)))) + 1) then (if (wrap64 ((wrap64 (c + (wrap64 (Int.tdiv b 64)))) + 1) : Int).toNat * 8 ≤ 281474976710656 then ((bF.l0 k a b c (List.replicate (wrap64 ((wrap64 (c + (wrap64 (Int.tdiv b 64)))) + 1) : Int).toNat 0) 0).map bF.enc) else (none)) else (none)))) (tc h)
 ·cases h
def dM.enc (r : List Int) : AV := .ro true .u64 r
def dM.app (k : Nat) : List AV → (AV → Option AV) → Option AV := fun l K => match l with
 | [.ro false .u64 a, .v (.int .i64 b)] => (dM.f k a b).bind fun r => K (dM.enc r)
 | _ => none
def dM.E (k : Nat) : Env := ⟨8, tys, [(219, bF.app k)], [], [], false, [73], false⟩
theorem dM.fok (k : Nat) : FO 166 f166 (bW f166) (dM.E k) := fo fG func166 ⟨bF.ok k, trivial⟩
theorem dM.ok (k : Nat) : AO 166 (dM.app k) := dZ stays mixed (dM.fok k) (dY rfl) fun l K r h => by
 dsimp only [dM.app] at h
 split at h
 ·rename_i a b
  exact fin (enc := dM.enc) h rfl fun y h => by
   simp only [dM.f] at h
   exact via ((bF.f k a b).bind fun c => (some (.ro true .u64 c))) (tc h)
 ·cases h
def dQ.enc (r : Int) : AV := .v (.int .u64 r)
def dQ.app : List AV → (AV → Option AV) → Option AV := fun l K => match l with
 | [.ro false .u64 a, .v (.int .i64 b)] => (dQ.f a b).bind fun r => K (dQ.enc r)
 | _ => none
def dQ.E : Env := ⟨13, tys, [], [], [], false, [22], false⟩
theorem dQ.fok : FO 169 f169 (bW f169) (dQ.E) := fo fG func169 trivial
theorem dQ.ok : AO 169 (dQ.app) := dZ stays mixed (dQ.fok) (dY rfl) fun l K r h => by
 dsimp only [dQ.app] at h
 split at h
 ·rename_i a b
  exact fin (enc := dQ.enc) h rfl fun y h => by
   simp only [dQ.f] at h
   exact via (if (decide (b < (a.length : Int))) = true then (if (0 : Int) ≤ b then (if (b : Int) < (a.length : Int) then (some (.v (.int .u64 (rd a b)))) else (none)) else (none)) else (some (.v (.int .u64 0)))) (tc h)
 ·cases h
def aJ.enc (r : List Int) : AV := .ro true .u64 r
def aJ.app (k : Nat) : List AV → (AV → Option AV) → Option AV := fun l K => match l with
 | [.ro false .u64 a, .ro false .u64 b] => (aJ.f k a b).bind fun r => K (aJ.enc r)
 | _ => none
def aJ.p0 (k : Nat) : Pt := ⟨[.c [1, 1, 1, 0], .c [1, 1, 1, 1]], [(0, some .u64, [false]), (1, some .u64, [false]), (5, none, [])], [], [], [], fun s => match s with
 | ⟨[(0, .ro false .u64 a), (1, .ro false .u64 b), (5, .v (.int .i64 c))], []⟩ => (aJ.j0 k a b c).map aJ.enc
 | _ => none⟩
def aJ.p1 (k : Nat) : Pt := ⟨[.c [1, 1, 1, 1, 1, 0, 1, 0, 0, 0, 0], .c [1, 1, 1, 1, 1, 0, 1, 0, 0, 0, 1], .c [1, 1, 1, 1, 1, 0, 1, 0, 0, 1], .l [1, 1, 1, 1, 1, 0, 1, 0, 0], .b 0, .c [1, 1, 1, 1, 1, 1]], [(0, some .u64, [false]), (1, some .u64, [false]), (5, none, []), (7, none, []), (8, none, [])], [], [(6, .u64, 22)], [], fun s => match s with
 | ⟨[(0, .ro false .u64 a), (1, .ro false .u64 b), (5, .v (.int .i64 c)), (7, .v (.int .u64 d)), (8, .v (.int .i64 e)), (6, .own 6)], [(6, .ints .u64 22 f)]⟩ => (aJ.l0 k a b c f d e).map aJ.enc
 | _ => none⟩
def aJ.E (k : Nat) : Env := ⟨57, tys, [(151, aK.app k), (169, dQ.app), (154, bI.app)], [(4, aJ.p0 k), (7, aJ.p1 k)], [], false, [73], false⟩
theorem aJ.fok (k : Nat) : FO 84 f84 (bW f84) (aJ.E k) := fo fG func84 ⟨aK.ok k, ⟨dQ.ok, ⟨bI.ok, trivial⟩⟩⟩
theorem aJ.s0 : jd f84 aJ.E aJ.p0 := fun k s r h => by
 dsimp only [aJ.p0] at h
 split at h
 ·rename_i a b c
  rcases k with _ | k
  ·cases h
  simp only [aJ.j0] at h
  exact ⟨k, rfl, via (if (0 : Int) ≤ wrap64 (c + 1) then (if (wrap64 (c + 1) : Int).toNat * 8 ≤ 281474976710656 then ((aJ.l0 k a b c (List.replicate (wrap64 (c + 1) : Int).toNat 0) 0 0).map aJ.enc) else (none)) else (none)) (tc h)⟩
 ·cases h
theorem aJ.s1 : jd f84 aJ.E aJ.p1 := fun k s r h => by
 dsimp only [aJ.p1] at h
 split at h
 ·rename_i a b c d e f
  rcases k with _ | k
  ·cases h
  simp only [aJ.l0] at h
  exact ⟨k, rfl, via (if (decide (e < c)) = true then ((dQ.f a e).bind fun g => ((dQ.f b e).bind fun i => (if (decide ((IntKind.wrap .u64 (g + i)) < g)) = false then (if (decide ((IntKind.wrap .u64 ((IntKind.wrap .u64 (g + i)) + d)) < (IntKind.wrap .u64 (g + i)))) = true then (if (0 : Int) ≤ e then (if (e : Int) < (f.length : Int) then ((aJ.l0 k a b c (f.set (e : Int).toNat (IntKind.wrap .u64 ((IntKind.wrap .u64 (g + i)) + d))) 1 (wrap64 (e + 1))).map aJ.enc) else (none)) else (none)) else (if (0 : Int) ≤ e then (if (e : Int) < (f.length : Int) then ((aJ.l0 k a b c (f.set (e : Int).toNat (IntKind.wrap .u64 ((IntKind.wrap .u64 (g + i)) + d))) 0 (wrap64 (e + 1))).map aJ.enc) else (none)) else (none))) else (if (0 : Int) ≤ e then (if (e : Int) < (f.length : Int) then ((aJ.l0 k a b c (f.set (e : Int).toNat (IntKind.wrap .u64 ((IntKind.wrap .u64 (g + i)) + d))) 1 (wrap64 (e + 1))).map aJ.enc) else (none)) else (none))))) else (if (0 : Int) ≤ c then (if (c : Int) < (f.length : Int) then ((bI.f (f.set (c : Int).toNat d)).bind fun j => (some (.ro true .u64 j))) else (none)) else (none))) (tc h)⟩
 ·cases h
theorem aJ.pts : ∀ k, iV prog (bW f84) (aJ.E k) GOk (Fin prog f84) := iI stays mixed aJ.fok [(4, aJ.p0), (7, aJ.p1)] ⟨aJ.s0, aJ.s1, trivial⟩
theorem aJ.ok (k : Nat) : AO 84 (aJ.app k) := dZ stays mixed (aJ.fok k) (aJ.pts k) fun l K r h => by
 dsimp only [aJ.app] at h
 split at h
 ·rename_i a b
  exact fin (enc := aJ.enc) h rfl fun y h => by
   simp only [aJ.f] at h
   exact via ((aK.f k a).bind fun c => ((aK.f k b).bind fun d => (if (decide (d > c)) = true then ((aK.f k b).bind fun e => ((aJ.j0 k a b e).map aJ.enc)) else ((aJ.j0 k a b c).map aJ.enc)))) (tc h)
 ·cases h
def bn.enc (r : Int) : AV := .v (.int .i64 r)
def bn.app (k : Nat) : List AV → (AV → Option AV) → Option AV := fun l K => match l with
 | [.ro false .u64 a, .ro false .u64 b] => (bn.f k a b).bind fun r => K (bn.enc r)
 | _ => none
def bn.p0 (k : Nat) : Pt := ⟨[.c [1, 1, 1, 1, 0, 1, 0, 0, 0, 0], .c [1, 1, 1, 1, 0, 1, 0, 0, 0, 1], .c [1, 1, 1, 1, 0, 1, 0, 0, 1], .l [1, 1, 1, 1, 0, 1, 0, 0], .b 0, .c [1, 1, 1, 1, 1]], [(0, some .u64, [false]), (1, some .u64, [false]), (7, none, [])], [], [], [], fun s => match s with
 | ⟨[(0, .ro false .u64 a), (1, .ro false .u64 b), (7, .v (.int .i64 c))], []⟩ => (bn.l0 k a b c).map bn.enc
 | _ => none⟩
def bn.E (k : Nat) : Env := ⟨42, tys, [(151, aK.app k)], [(8, bn.p0 k)], [(10, [0, 1, 2, 3, 4, 5, 6, 7, 8]), (12, [0, 1, 2, 3, 4, 5, 6, 7, 8])], false, [3], false⟩
theorem bn.fok (k : Nat) : FO 168 f168 (bW f168) (bn.E k) := fo fG func168 ⟨aK.ok k, trivial⟩
theorem bn.s0 : jd f168 bn.E bn.p0 := fun k s r h => by
 dsimp only [bn.p0] at h
 split at h
 ·rename_i a b c
  rcases k with _ | k
  ·cases h
  simp only [bn.l0] at h
  exact ⟨k, rfl, via (if (decide (c ≥ 0)) = true then (if (0 : Int) ≤ c then (if (c : Int) < (a.length : Int) then (if (0 : Int) ≤ c then (if (c : Int) < (b.length : Int) then (if (decide ((rd a c) < (rd b c))) = true then (some (.v (.int .i64 (-1)))) else (if (0 : Int) ≤ c then (if (c : Int) < (a.length : Int) then (if (0 : Int) ≤ c then (if (c : Int) < (b.length : Int) then (if (decide ((rd a c) > (rd b c))) = true then (some (.v (.int .i64 1))) else ((bn.l0 k a b (wrap64 (c - 1))).map bn.enc)) else (none)) else (none)) else (none)) else (none))) else (none)) else (none)) else (none)) else (none)) else (some (.v (.int .i64 0)))) (tc h)⟩
 ·cases h
theorem bn.pts : ∀ k, iV prog (bW f168) (bn.E k) GOk (Fin prog f168) := iI stays mixed bn.fok [(8, bn.p0)] ⟨bn.s0, trivial⟩
theorem bn.ok (k : Nat) : AO 168 (bn.app k) := dZ stays mixed (bn.fok k) (bn.pts k) fun l K r h => by
 dsimp only [bn.app] at h
 split at h
 ·rename_i a b
  exact fin (enc := bn.enc) h rfl fun y h => by
   simp only [bn.f] at h
   exact via ((aK.f k a).bind fun c => ((aK.f k b).bind fun d => (if (c != d) = true then (if (decide (c < d)) = true then (some (.v (.int .i64 (-1)))) else (some (.v (.int .i64 1)))) else ((bn.l0 k a b (wrap64 (d - 1))).map bn.enc)))) (tc h)
 ·cases h
def dN.enc (r : Int) : AV := .v (.int .u64 r)
def dN.app : List AV → (AV → Option AV) → Option AV := fun l K => match l with
 | [.ro false .u64 a, .v (.int .i64 b)] => (dN.f a b).bind fun r => K (dN.enc r)
 | _ => none
def dN.E : Env := ⟨24, tys, [], [], [], false, [22], false⟩
theorem dN.fok : FO 216 f216 (bW f216) (dN.E) := fo fG func216 trivial
theorem dN.ok : AO 216 (dN.app) := dZ stays mixed (dN.fok) (dY rfl) fun l K r h => by
 dsimp only [dN.app] at h
 split at h
 ·rename_i a b
  exact fin (enc := dN.enc) h rfl fun y h => by
   simp only [dN.f] at h
   exact via (if (decide (b < 0)) = false then (if (64 : Int) = 0 then (none) else (if (decide ((wrap64 (Int.tdiv b 64)) ≥ (a.length : Int))) = true then (some (.v (.int .u64 0))) else (if (64 : Int) = 0 then (none) else (if (0 : Int) ≤ wrap64 (Int.tdiv b 64) then (if (wrap64 (Int.tdiv b 64) : Int) < (a.length : Int) then (if (64 : Int) = 0 then (none) else (if (0 : Int) ≤ IntKind.wrap .u64 (Int.tmod b 64) then (some (.v (.int .u64 (Go.bits .and .u64 (shr .u64 (rd a (wrap64 (Int.tdiv b 64))) (IntKind.wrap .u64 (Int.tmod b 64))) 1)))) else (none))) else (none)) else (none))))) else (some (.v (.int .u64 0)))) (tc h)
 ·cases h
def bD.enc (r : List Int) : AV := .ro true .u64 r
def bD.app (k : Nat) : List AV → (AV → Option AV) → Option AV := fun l K => match l with
 | [.ro false .u64 a, .v (.int .i64 b)] => (bD.f k a b).bind fun r => K (bD.enc r)
 | _ => none
def bD.p0 (k : Nat) : Pt := ⟨[.c [1, 1, 1, 1, 0, 1, 0, 0, 0, 0], .c [1, 1, 1, 1, 0, 1, 0, 0, 0, 1], .c [1, 1, 1, 1, 0, 1, 0, 0, 1], .l [1, 1, 1, 1, 0, 1, 0, 0], .b 0, .c [1, 1, 1, 1, 1]], [(0, some .u64, [false]), (1, none, []), (5, none, []), (7, none, []), (4, some .u64, [])], [], [(6, .u64, 22)], [], fun s => match s with
 | ⟨[(0, .ro false .u64 a), (1, .v (.int .i64 b)), (5, .v (.int .i64 c)), (7, .v (.int .i64 d)), (4, .ro true .u64 []), (6, .own 6)], [(6, .ints .u64 22 e)]⟩ => (bD.l0 k a b c e d).map bD.enc
 | _ => none⟩
def bD.E (k : Nat) : Env := ⟨74, tys, [(94, aY.app k), (151, aK.app k), (154, bI.app)], [(6, bD.p0 k)], [(10, [0, 1, 2, 3, 4, 5, 6, 7, 8, 9, 10, 11, 12, 13, 14, 15, 16, 17, 18, 19, 20, 21])], false, [73], false⟩
theorem bD.fok (k : Nat) : FO 253 f253 (bW f253) (bD.E k) := fo fG func253 ⟨aY.ok k, ⟨aK.ok k, ⟨bI.ok, trivial⟩⟩⟩
theorem bD.s0 : jd f253 bD.E bD.p0 := fun k s r h => by
 dsimp only [bD.p0] at h
 split at h
 ·rename_i a b c d e
  rcases k with _ | k
  ·cases h
  simp only [bD.l0] at h
  exact ⟨k, rfl, via (if (decide (d < (e.length : Int))) = true then (if (64 : Int) = 0 then (none) else (if (0 : Int) ≤ wrap64 (d + (wrap64 (Int.tdiv b 64))) then (if (wrap64 (d + (wrap64 (Int.tdiv b 64))) : Int) < (a.length : Int) then (if (64 : Int) = 0 then (none) else (if (0 : Int) ≤ IntKind.wrap .u64 (Int.tmod b 64) then (if (0 : Int) ≤ d then (if (d : Int) < (e.length : Int) then (if (64 : Int) = 0 then (none) else (if (decide ((Int.tmod b 64) > 0)) = true then (if (64 : Int) = 0 then (none) else (if (decide ((wrap64 ((wrap64 (d + (wrap64 (Int.tdiv b 64)))) + 1)) < c)) = true then (if (0 : Int) ≤ d then (if (d : Int) < ((e.set (d : Int).toNat (shr .u64 (rd a (wrap64 (d + (wrap64 (Int.tdiv b 64))))) (IntKind.wrap .u64 (Int.tmod b 64)))).length : Int) then (if (64 : Int) = 0 then (none) else (if (0 : Int) ≤ wrap64 ((wrap64 (d + (wrap64 (Int.tdiv b 64)))) + 1) then (if (wrap64 ((wrap64 (d + (wrap64 (Int.tdiv b 64)))) + 1) : Int) < (a.length : Int) then (if (64 : Int) = 0 then (none) else (if (0 : Int) ≤ IntKind.wrap .u64 (wrap64 (64 - (Int.tmod b 64))) then (if (0 : Int) ≤ d then (if (d : Int) < ((e.set (d : Int).toNat (shr .u64 (rd a (wrap64 (d + (wrap64 (Int.tdiv b 64))))) (IntKind.wrap .u64 (Int.tmod b 64)))).length : Int) then ((bD.l0 k a b c ((e.set (d : Int).toNat (shr .u64 (rd a (wrap64 (d + (wrap64 (Int.tdiv b 64))))) (IntKind.wrap .u64 (Int.tmod b 64)))).set (d : Int).toNat (Go.bits .or .u64 (rd (e.set (d : Int).toNat (shr .u64 (rd a (wrap64 (d + (wrap64 (Int.tdiv b 64))))) (IntKind.wrap .u64 (Int.tmod b 64)))) d) (shl .u64 (rd a (wrap64 ((wrap64 (d + (wrap64 (Int.tdiv b 64)))) + 1))) (IntKind.wrap .u64 (wrap64 (64 - (Int.tmod b 64))))))) (wrap64 (d + 1))).map bD.enc) else (none)) else (none)) else (none))) else (none)) else (none))) else (none)) else (none)) else ((bD.l0 k a b c (e.set (d : Int).toNat (shr .u64 (rd a (wrap64 (d + (wrap64 (Int.tdiv b 64))))) (IntKind.wrap .u64 (Int.tmod b 64)))) (wrap64 (d + 1))).map bD.enc))) else ((bD.l0 k a b c (e.set (d : Int).toNat (shr .u64 (rd a (wrap64 (d + (wrap64 (Int.tdiv b 64))))) (IntKind.wrap .u64 (Int.tmod b 64)))) (wrap64 (d + 1))).map bD.enc))) else (none)) else (none)) else (none))) else (none)) else (none))) else ((bI.f e).bind fun f => (some (.ro true .u64 f)))) (tc h)⟩
 ·cases h
theorem bD.pts : ∀ k, iV prog (bW f253) (bD.E k) GOk (Fin prog f253) := iI stays mixed bD.fok [(6, bD.p0)] ⟨bD.s0, trivial⟩
theorem bD.ok (k : Nat) : AO 253 (bD.app k) := dZ stays mixed (bD.fok k) (bD.pts k) fun l K r h => by
 dsimp only [bD.app] at h
 split at h
 ·rename_i a b
  exact fin (enc := bD.enc) h rfl fun y h => by
   simp only [bD.f] at h
   exact via ((aY.f k a).bind fun c => (if (decide (b ≥ c)) = true then (some (.ro true .u64 ([] : List Int))) else ((aK.f k a).bind fun d => (if (64 : Int) = 0 then (none) else (if (0 : Int) ≤ wrap64 (d - (wrap64 (Int.tdiv b 64))) then (if (wrap64 (d - (wrap64 (Int.tdiv b 64))) : Int).toNat * 8 ≤ 281474976710656 then ((bD.l0 k a b d (List.replicate (wrap64 (d - (wrap64 (Int.tdiv b 64))) : Int).toNat 0) 0).map bD.enc) else (none)) else (none)))))) (tc h)
 ·cases h
def aX.enc (r : List Int) : AV := .ro true .u64 r
def aX.app (k : Nat) : List AV → (AV → Option AV) → Option AV := fun l K => match l with
 | [.ro false .u64 a, .ro false .u64 b] => (aX.f k a b).bind fun r => K (aX.enc r)
 | _ => none
def aX.p0 (k : Nat) : Pt := ⟨[.c [1, 1, 1, 1, 0, 1, 0, 0, 0, 0], .c [1, 1, 1, 1, 0, 1, 0, 0, 0, 1], .c [1, 1, 1, 1, 0, 1, 0, 0, 1], .l [1, 1, 1, 1, 0, 1, 0, 0], .b 0, .c [1, 1, 1, 1, 1]], [(0, some .u64, [false]), (1, some .u64, [false]), (5, none, []), (7, none, []), (8, none, []), (4, some .u64, [])], [], [(6, .u64, 22)], [], fun s => match s with
 | ⟨[(0, .ro false .u64 a), (1, .ro false .u64 b), (5, .v (.int .i64 c)), (7, .v (.int .u64 d)), (8, .v (.int .i64 e)), (4, .ro true .u64 []), (6, .own 6)], [(6, .ints .u64 22 f)]⟩ => (aX.l0 k a b c f d e).map aX.enc
 | _ => none⟩
def aX.E (k : Nat) : Env := ⟨49, tys, [(151, aK.app k), (169, dQ.app), (154, bI.app)], [(5, aX.p0 k)], [], false, [73], false⟩
theorem aX.fok (k : Nat) : FO 254 f254 (bW f254) (aX.E k) := fo fG func254 ⟨aK.ok k, ⟨dQ.ok, ⟨bI.ok, trivial⟩⟩⟩
theorem aX.s0 : jd f254 aX.E aX.p0 := fun k s r h => by
 dsimp only [aX.p0] at h
 split at h
 ·rename_i a b c d e f
  rcases k with _ | k
  ·cases h
  simp only [aX.l0] at h
  exact ⟨k, rfl, via (if (decide (e < c)) = true then (if (0 : Int) ≤ e then (if (e : Int) < (a.length : Int) then ((dQ.f b e).bind fun g => (if (0 : Int) ≤ e then (if (e : Int) < (f.length : Int) then (if (decide ((rd a e) < g)) = false then (if ((rd a e) == g) = true then (if (d == 1) = true then ((aX.l0 k a b c (f.set (e : Int).toNat (IntKind.wrap .u64 ((IntKind.wrap .u64 ((rd a e) - g)) - d))) 1 (wrap64 (e + 1))).map aX.enc) else ((aX.l0 k a b c (f.set (e : Int).toNat (IntKind.wrap .u64 ((IntKind.wrap .u64 ((rd a e) - g)) - d))) 0 (wrap64 (e + 1))).map aX.enc)) else ((aX.l0 k a b c (f.set (e : Int).toNat (IntKind.wrap .u64 ((IntKind.wrap .u64 ((rd a e) - g)) - d))) 0 (wrap64 (e + 1))).map aX.enc)) else ((aX.l0 k a b c (f.set (e : Int).toNat (IntKind.wrap .u64 ((IntKind.wrap .u64 ((rd a e) - g)) - d))) 1 (wrap64 (e + 1))).map aX.enc)) else (none)) else (none))) else (none)) else (none)) else ((bI.f f).bind fun i => (some (.ro true .u64 i)))) (tc h)⟩
 ·cases h
theorem aX.pts : ∀ k, iV prog (bW f254) (aX.E k) GOk (Fin prog f254) := iI stays mixed aX.fok [(5, aX.p0)] ⟨aX.s0, trivial⟩
theorem aX.ok (k : Nat) : AO 254 (aX.app k) := dZ stays mixed (aX.fok k) (aX.pts k) fun l K r h => by
 dsimp only [aX.app] at h
 split at h
 ·rename_i a b
  exact fin (enc := aX.enc) h rfl fun y h => by
   simp only [aX.f] at h
   exact via ((aK.f k a).bind fun c => (if (0 : Int) ≤ c then (if (c : Int).toNat * 8 ≤ 281474976710656 then ((aX.l0 k a b c (List.replicate (c : Int).toNat 0) 0 0).map aX.enc) else (none)) else (none))) (tc h)
 ·cases h
def aI.enc (r : List Int × List Int) : AV := .tup [.ro true .u64 r.1, .ro true .u64 r.2]
def aI.app (k : Nat) : List AV → (AV → Option AV) → Option AV := fun l K => match l with
 | [.ro false .u64 a, .ro false .u64 b] => (aI.f k a b).bind fun r => K (aI.enc r)
 | _ => none
def aI.p0 (k : Nat) : Pt := ⟨[.c [1, 1, 1, 1, 1, 1, 0, 1, 0, 0, 0, 0], .c [1, 1, 1, 1, 1, 1, 0, 1, 0, 0, 0, 1], .c [1, 1, 1, 1, 1, 1, 0, 1, 0, 0, 1], .l [1, 1, 1, 1, 1, 1, 0, 1, 0, 0], .b 0, .c [1, 1, 1, 1, 1, 1, 1]], [(0, some .u64, [false]), (1, some .u64, [false]), (9, some .u64, []), (10, none, [])], [], [(8, .u64, 22)], [], fun s => match s with
 | ⟨[(0, .ro false .u64 a), (1, .ro false .u64 b), (9, .ro true .u64 c), (10, .v (.int .i64 d)), (8, .own 8)], [(8, .ints .u64 22 e)]⟩ => (aI.l0 k a b e c d).map aI.enc
 | _ => none⟩
def aI.p1 (k : Nat) : Pt := ⟨[.c [1, 1, 1, 1, 1, 1, 0, 1, 0, 0, 1, 0, 0, 1, 1, 0], .c [1, 1, 1, 1, 1, 1, 0, 1, 0, 0, 1, 0, 0, 1, 1, 1], .b 1, .c [1, 1, 1, 1, 1, 1, 0, 1, 0, 0, 1, 1], .l [1, 1, 1, 1, 1, 1, 0, 1, 0, 0], .b 0, .c [1, 1, 1, 1, 1, 1, 1]], [(0, some .u64, [false]), (1, some .u64, [false]), (9, some .u64, []), (10, none, [])], [], [(8, .u64, 22)], [], fun s => match s with
 | ⟨[(0, .ro false .u64 a), (1, .ro false .u64 b), (9, .ro true .u64 c), (10, .v (.int .i64 d)), (8, .own 8)], [(8, .ints .u64 22 e)]⟩ => (aI.j1 k a b e c d).map aI.enc
 | _ => none⟩
def aI.E (k : Nat) : Env := ⟨69, tys, [(94, aY.app k), (154, bI.app), (151, aK.app k), (253, bD.app k), (219, bF.app k), (216, dN.app), (84, aJ.app k), (168, bn.app k), (254, aX.app k)], [(8, aI.p0 k), (13, aI.p1 k)], [], false, [73, 73], false⟩
theorem aI.fok (k : Nat) : FO 220 f220 (bW f220) (aI.E k) := fo fG func220 ⟨aY.ok k, ⟨bI.ok, ⟨aK.ok k, ⟨bD.ok k, ⟨bF.ok k, ⟨dN.ok, ⟨aJ.ok k, ⟨bn.ok k, ⟨aX.ok k, trivial⟩⟩⟩⟩⟩⟩⟩⟩⟩
theorem aI.s0 : jd f220 aI.E aI.p0 := fun k s r h => by
 dsimp only [aI.p0] at h
 split at h
 ·rename_i a b c d e
  rcases k with _ | k
  ·cases h
  simp only [aI.l0] at h
  exact ⟨k, rfl, via (if (decide (d ≥ 0)) = true then ((bF.f k c 1).bind fun f => ((dN.f a d).bind fun g => (if (g == 1) = true then ((aJ.f k f ([1] : List Int)).bind fun i => ((aI.j1 k a b e i d).map aI.enc)) else ((aI.j1 k a b e f d).map aI.enc)))) else ((bI.f e).bind fun j => (some (.tup [.ro true .u64 j, .ro true .u64 c])))) (tc h)⟩
 ·cases h
theorem aI.s1 : jd f220 aI.E aI.p1 := fun k s r h => by
 dsimp only [aI.p1] at h
 split at h
 ·rename_i a b c d e
  rcases k with _ | k
  ·cases h
  simp only [aI.j1] at h
  exact ⟨k, rfl, via ((bn.f k c b).bind fun f => (if (decide (f ≥ 0)) = true then ((aX.f k c b).bind fun g => (if (64 : Int) = 0 then (none) else (if (64 : Int) = 0 then (none) else (if (0 : Int) ≤ wrap64 (Int.tdiv d 64) then (if (wrap64 (Int.tdiv d 64) : Int) < (e.length : Int) then (if (64 : Int) = 0 then (none) else (if (0 : Int) ≤ IntKind.wrap .u64 (Int.tmod d 64) then (if (0 : Int) ≤ wrap64 (Int.tdiv d 64) then (if (wrap64 (Int.tdiv d 64) : Int) < (e.length : Int) then ((aI.l0 k a b (e.set (wrap64 (Int.tdiv d 64) : Int).toNat (Go.bits .or .u64 (rd e (wrap64 (Int.tdiv d 64))) (shl .u64 1 (IntKind.wrap .u64 (Int.tmod d 64))))) g (wrap64 (d - 1))).map aI.enc) else (none)) else (none)) else (none))) else (none)) else (none))))) else ((aI.l0 k a b e c (wrap64 (d - 1))).map aI.enc))) (tc h)⟩
 ·cases h
theorem aI.pts : ∀ k, iV prog (bW f220) (aI.E k) GOk (Fin prog f220) := iI stays mixed aI.fok [(8, aI.p0), (13, aI.p1)] ⟨aI.s0, aI.s1, trivial⟩
theorem aI.ok (k : Nat) : AO 220 (aI.app k) := dZ stays mixed (aI.fok k) (aI.pts k) fun l K r h => by
 dsimp only [aI.app] at h
 split at h
 ·rename_i a b
  exact fin (enc := aI.enc) h rfl fun y h => by
   simp only [aI.f] at h
   exact via ((aY.f k a).bind fun c => ((aY.f k b).bind fun d => (if (decide (c < d)) = true then ((bI.f a).bind fun e => (some (.tup [.ro true .u64 ([] : List Int), .ro true .u64 e]))) else ((aK.f k a).bind fun f => (if (0 : Int) ≤ f then (if (f : Int).toNat * 8 ≤ 281474976710656 then ((bD.f k a (wrap64 ((wrap64 (c - d)) + 1))).bind fun g => ((aI.l0 k a b (List.replicate (f : Int).toNat 0) g (wrap64 (c - d))).map aI.enc)) else (none)) else (none)))))) (tc h)
 ·cases h
def dD.enc (r : List Int × List Int) : AV := .tup [.ro true .u64 r.1, .ro true .u64 r.2]
def dD.app (k : Nat) : List AV → (AV → Option AV) → Option AV := fun l K => match l with
 | [.ro false .u64 a, .ro false .u64 b] => (dD.f k a b).bind fun r => K (dD.enc r)
 | _ => none
def dD.E (k : Nat) : Env := ⟨11, tys, [(220, aI.app k)], [], [], false, [73, 73], false⟩
theorem dD.fok (k : Nat) : FO 167 f167 (bW f167) (dD.E k) := fo fG func167 ⟨aI.ok k, trivial⟩
theorem dD.ok (k : Nat) : AO 167 (dD.app k) := dZ stays mixed (dD.fok k) (dY rfl) fun l K r h => by
 dsimp only [dD.app] at h
 split at h
 ·rename_i a b
  exact fin (enc := dD.enc) h rfl fun y h => by
   simp only [dD.f] at h
   exact via ((aI.f k a b).bind fun c => (some (.tup [.ro true .u64 c.1, .ro true .u64 c.2]))) (tc h)
 ·cases h
def bT.enc (r : List Int × Int) : AV := .tup [.ro true .u64 r.1, .v (.int .i64 r.2)]
def bT.app (k : Nat) : List AV → (AV → Option AV) → Option AV := fun l K => match l with
 | [.agg [.v (.bool a), .ro false .u64 b, .ro false .u64 c, .v (.int .i64 d)], .v (.int .i64 e)] => (bT.f k a b c d e).bind fun r => K (bT.enc r)
 | _ => none
def bT.E (k : Nat) : Env := ⟨46, tys, [(166, dM.app k), (167, dD.app k), (168, bn.app k)], [], [], false, [73, 3], false⟩
theorem bT.fok (k : Nat) : FO 157 f157 (bW f157) (bT.E k) := fo fG func157 ⟨dM.ok k, ⟨dD.ok k, ⟨bn.ok k, trivial⟩⟩⟩
theorem bT.ok (k : Nat) : AO 157 (bT.app k) := dZ stays mixed (bT.fok k) (dY rfl) fun l K r h => by
 dsimp only [bT.app] at h
 split at h
 ·rename_i a b c d e
  exact fin (enc := bT.enc) h rfl fun y h => by
   simp only [bT.f] at h
   exact via (if (decide (d ≥ e)) = true then ((dM.f k b (wrap64 (d - e))).bind fun f => ((dD.f k f c).bind fun g => (if ((g.2.length : Int) == 0) = true then (some (.tup [.ro true .u64 g.1, .v (.int .i64 0)])) else ((dM.f k g.2 1).bind fun i => ((bn.f k i c).bind fun j => (some (.tup [.ro true .u64 g.1, .v (.int .i64 (wrap64 (2 + j)))]))))))) else ((dM.f k c (wrap64 (e - d))).bind fun m => ((dD.f k b m).bind fun n => (if ((n.2.length : Int) == 0) = true then (some (.tup [.ro true .u64 n.1, .v (.int .i64 0)])) else ((dM.f k n.2 1).bind fun o => ((bn.f k o m).bind fun p => (some (.tup [.ro true .u64 n.1, .v (.int .i64 (wrap64 (2 + p)))])))))))) (tc h)
 ·cases h
def eU.enc (r : Int) : AV := .v (.int .i64 r)
def eU.app (k : Nat) : List AV → (AV → Option AV) → Option AV := fun l K => match l with
 | [.agg [.v (.bool a), .ro false .u64 b, .ro false .u64 c, .v (.int .i64 d)]] => (eU.f k a b c d).bind fun r => K (eU.enc r)
 | _ => none
def eU.E (k : Nat) : Env := ⟨28, tys, [(94, aY.app k), (157, bT.app k)], [], [(1, [0, 1, 3, 4, 7, 8, 2, 5, 6, 9, 10])], false, [3], false⟩
theorem eU.fok (k : Nat) : FO 156 f156 (bW f156) (eU.E k) := fo fG func156 ⟨aY.ok k, ⟨bT.ok k, trivial⟩⟩
theorem eU.ok (k : Nat) : AO 156 (eU.app k) := dZ stays mixed (eU.fok k) (dY rfl) fun l K r h => by
 dsimp only [eU.app] at h
 split at h
 ·rename_i a b c d
  exact fin (enc := eU.enc) h rfl fun y h => by
   simp only [eU.f] at h
   exact via ((aY.f k b).bind fun e => ((aY.f k c).bind fun f => ((bT.f k a b c d (wrap64 ((wrap64 (e - f)) + d))).bind fun g => (if ((g.1.length : Int) == 0) = true then (some (.v (.int .i64 (wrap64 ((wrap64 ((wrap64 (e - f)) + d)) - 1))))) else (some (.v (.int .i64 (wrap64 ((wrap64 (e - f)) + d))))))))) (tc h)
 ·cases h
def dw.enc (r : List Int) : AV := .ro false .u64 r
def dw.app (k : Nat) : List AV → (AV → Option AV) → Option AV := fun l K => match l with
 | [.v (.int .i64 a), .v (.bool b), .ro false .u64 c, .v (.int .i64 d)] => (dw.f k a b c d).bind fun r => K (dw.enc r)
 | _ => none
def dw.E (k : Nat) : Env := ⟨50, tys, [(216, dN.app), (84, aJ.app k)], [], [], true, [73], false⟩
theorem dw.fok (k : Nat) : FO 158 f158 (bW f158) (dw.E k) := fo fG func158 ⟨dN.ok, ⟨aJ.ok k, trivial⟩⟩
theorem dw.ok (k : Nat) : AO 158 (dw.app k) := dZ stays mixed (dw.fok k) (dY rfl) fun l K r h => by
 dsimp only [dw.app] at h
 split at h
 ·rename_i a b c d
  exact fin (enc := dw.enc) h rfl fun y h => by
   simp only [dw.f] at h
   exact via ((dN.f c 0).bind fun e => (if (a == 0) = true then (if (d == 3) = false then (if (d == 2) = true then (if (decide (d > 0)) = true then (if (e == 1) = true then ((aJ.f k c ([1] : List Int)).bind fun f => (some (.ro false .u64 f))) else (some (.ro false .u64 c))) else (some (.ro false .u64 c))) else (if (decide (d > 0)) = true then (some (.ro false .u64 c)) else (some (.ro false .u64 c)))) else (if (decide (d > 0)) = true then ((aJ.f k c ([1] : List Int)).bind fun g => (some (.ro false .u64 g))) else (some (.ro false .u64 c)))) else (if (a == 1) = true then (if (decide (d > 0)) = true then (if (decide (d ≥ 2)) = true then ((aJ.f k c ([1] : List Int)).bind fun i => (some (.ro false .u64 i))) else (some (.ro false .u64 c))) else (some (.ro false .u64 c))) else (if (a == 3) = true then (if (decide (d > 0)) = true then (if (!b) = true then ((aJ.f k c ([1] : List Int)).bind fun j => (some (.ro false .u64 j))) else (some (.ro false .u64 c))) else (some (.ro false .u64 c))) else (if (a == 4) = true then (if (decide (d > 0)) = true then (if b = true then ((aJ.f k c ([1] : List Int)).bind fun m => (some (.ro false .u64 m))) else (some (.ro false .u64 c))) else (some (.ro false .u64 c))) else (if (a == 5) = true then (if (decide (d > 0)) = true then (if (!(e == 1)) = true then ((aJ.f k c ([1] : List Int)).bind fun n => (some (.ro false .u64 n))) else (some (.ro false .u64 c))) else (some (.ro false .u64 c))) else (if (decide (d > 0)) = true then (some (.ro false .u64 c)) else (some (.ro false .u64 c))))))))) (tc h)
 ·cases h
def dG.enc (r : Int) : AV := .v (.int .u64 r)
def dG.app : List AV → (AV → Option AV) → Option AV := fun l K => match l with
 | [.v (.int .i64 a), .v (.int .u64 b)] => (dG.f a b).bind fun r => K (dG.enc r)
 | _ => none
def dG.E : Env := ⟨25, tys, [(145, bJ.app), (149, bK.app)], [], [], false, [22], false⟩
theorem dG.fok : FO 217 f217 (bW f217) (dG.E) := fo fG func217 ⟨bJ.ok, ⟨bK.ok, trivial⟩⟩
theorem dG.ok : AO 217 (dG.app) := dZ stays mixed (dG.fok) (dY rfl) fun l K r h => by
 dsimp only [dG.app] at h
 split at h
 ·rename_i a b
  exact fin (enc := dG.enc) h rfl fun y h => by
   simp only [dG.f] at h
   exact via ((bJ.f a).bind fun c => (if (0 : Int) ≤ IntKind.wrap .u64 (wrap64 (c.2.1 - 1)) then ((bK.f a b (IntKind.wrap .u64 (wrap64 (2 * c.2.2.2.1))) (IntKind.wrap .u64 ((shl .u64 1 (IntKind.wrap .u64 (wrap64 (c.2.1 - 1)))) - 1))).bind fun d => (some (.v (.int .u64 d)))) else (none))) (tc h)
 ·cases h
def aV.enc (r : Int) : AV := .v (.int .u64 r)
def aV.app (k : Nat) : List AV → (AV → Option AV) → Option AV := fun l K => match l with
 | [.v (.int .i64 a), .v (.int .i64 b), .v (.bool c)] => (aV.f k a b c).bind fun r => K (aV.enc r)
 | _ => none
def aV.p0 (k : Nat) : Pt := ⟨[.c [1, 1, 0, 0], .c [1, 1, 0, 1], .c [1, 1, 1]], [(0, none, []), (2, none, []), (7, none, [])], [], [], [], fun s => match s with
 | ⟨[(0, .v (.int .i64 a)), (2, .v (.bool b)), (7, .v (.bool c))], []⟩ => (aV.j0 k a b c).map aV.enc
 | _ => none⟩
def aV.E (k : Nat) : Env := ⟨38, tys, [(155, b_.app), (65, dR.app), (217, dG.app)], [(2, aV.p0 k)], [], false, [22], false⟩
theorem aV.fok (k : Nat) : FO 159 f159 (bW f159) (aV.E k) := fo fG func159 ⟨b_.ok, ⟨dR.ok, ⟨dG.ok, trivial⟩⟩⟩
theorem aV.s0 : jd f159 aV.E aV.p0 := fun k s r h => by
 dsimp only [aV.p0] at h
 split at h
 ·rename_i a b c
  rcases k with _ | k
  ·cases h
  simp only [aV.j0] at h
  exact ⟨k, rfl, via (if c = true then ((b_.f b).bind fun d => ((dR.f a d).bind fun e => (some (.v (.int .u64 e))))) else ((b_.f b).bind fun f => ((dG.f a f).bind fun g => (some (.v (.int .u64 g)))))) (tc h)⟩
 ·cases h
theorem aV.pts : ∀ k, iV prog (bW f159) (aV.E k) GOk (Fin prog f159) := iI stays mixed aV.fok [(2, aV.p0)] ⟨aV.s0, trivial⟩
theorem aV.ok (k : Nat) : AO 159 (aV.app k) := dZ stays mixed (aV.fok k) (aV.pts k) fun l K r h => by
 dsimp only [aV.app] at h
 split at h
 ·rename_i a b c
  exact fin (enc := aV.enc) h rfl fun y h => by
   simp only [aV.f] at h
   exact via (if (b == 0) = false then (if (b == 1) = false then (if (b == 3) = true then (if (!c) = false then (if (b == 4) = true then ((aV.j0 k a c c).map aV.enc) else ((aV.j0 k a c false).map aV.enc)) else ((aV.j0 k a c true).map aV.enc)) else (if (b == 4) = true then ((aV.j0 k a c c).map aV.enc) else ((aV.j0 k a c false).map aV.enc))) else ((aV.j0 k a c true).map aV.enc)) else ((aV.j0 k a c true).map aV.enc)) (tc h)
 ·cases h
def aN.enc (r : Int × Int) : AV := .tup [.v (.int .u64 r.1), .v (.int .i64 r.2)]
def aN.app (k : Nat) : List AV → (AV → Option AV) → Option AV := fun l K => match l with
 | [.v (.int .i64 a), .v (.int .i64 b), .agg [.v (.bool c), .ro false .u64 d, .ro false .u64 e, .v (.int .i64 f)]] => (aN.f k a b c d e f).bind fun r => K (aN.enc r)
 | _ => none
def aN.p0 (k : Nat) : Pt := ⟨[.c [1, 1, 1, 1, 1, 1, 1, 0], .c [1, 1, 1, 1, 1, 1, 1, 1]], [(0, none, []), (1, none, []), (10, none, []), (11, none, []), (12, none, [])], [(5, [false, false]), (8, [])], [], [], fun s => match s with
 | ⟨[(0, .v (.int .i64 a)), (1, .v (.int .i64 b)), (10, .v (.int .i64 c)), (11, .v (.int .i64 d)), (12, .v (.int .i64 e)), (5, .ptr 5 0), (8, .ptr 8 0)], [(5, .cells [.v (.bool f), .ro false .u64 g, .ro false .u64 i, .v (.int .i64 j)]), (8, .cells [.v (.int .i64 m), .v (.int .i64 n), .v (.int .i64 o), .v (.int .i64 p)])]⟩ => (aN.j0 k a b c d e f g i j m n o p).map aN.enc
 | _ => none⟩
def aN.p1 (k : Nat) : Pt := ⟨[.c [1, 1, 1, 1, 1, 1, 1, 1, 1, 1, 1, 1, 0], .c [1, 1, 1, 1, 1, 1, 1, 1, 1, 1, 1, 1, 1]], [(0, none, []), (11, none, []), (12, none, []), (15, some .u64, [false]), (16, none, [])], [(5, [false, false]), (8, [])], [], [], fun s => match s with
 | ⟨[(0, .v (.int .i64 a)), (11, .v (.int .i64 b)), (12, .v (.int .i64 c)), (15, .ro false .u64 d), (16, .v (.int .i64 e)), (5, .ptr 5 0), (8, .ptr 8 0)], [(5, .cells [.v (.bool f), .ro false .u64 g, .ro false .u64 i, .v (.int .i64 j)]), (8, .cells [.v (.int .i64 m), .v (.int .i64 n), .v (.int .i64 o), .v (.int .i64 p)])]⟩ => (aN.j1 k a b c d e f g i j m n o p).map aN.enc
 | _ => none⟩
def aN.E (k : Nat) : Env := ⟨129, tys, [(154, bI.app), (155, b_.app), (67, dJ.app), (145, bJ.app), (156, eU.app k), (157, bT.app k), (158, dw.app k), (94, aY.app k), (159, aV.app k), (149, bK.app)], [(9, aN.p0 k), (19, aN.p1 k)], [(11, [0, 2, 4, 5, 6, 1, 3, 7]), (17, [0, 1, 2, 3, 4, 7, 9, 10, 13, 14, 5, 6, 8, 11, 12, 15]), (22, [0, 1, 2, 5, 6, 7, 8, 9, 10, 11, 12, 13, 14, 15, 17, 3, 4, 16, 18, 19])], false, [22, 3], false⟩
theorem aN.fok (k : Nat) : FO 71 f71 (bW f71) (aN.E k) := fo fG func71 ⟨bI.ok, ⟨b_.ok, ⟨dJ.ok, ⟨bJ.ok, ⟨eU.ok k, ⟨bT.ok k, ⟨dw.ok k, ⟨aY.ok k, ⟨aV.ok k, ⟨bK.ok, trivial⟩⟩⟩⟩⟩⟩⟩⟩⟩⟩
theorem aN.s0 : jd f71 aN.E aN.p0 := fun k s r h => by
 dsimp only [aN.p0] at h
 split at h
 ·rename_i a b c d e f g i j m n o p
  rcases k with _ | k
  ·cases h
  simp only [aN.j0] at h
  exact ⟨k, rfl, via ((bT.f k f g i j e).bind fun q => ((dw.f k b f q.1 q.2).bind fun t => ((aY.f k t).bind fun u => (if (decide ((wrap64 (u + e)) > (wrap64 (p + 1)))) = true then ((aV.f k a b f).bind fun v => (some (.tup [.v (.int .u64 v), .v (.int .i64 20)]))) else (if (decide (q.2 > 0)) = true then ((bT.f k f g i j (wrap64 ((wrap64 (c - n)) + 1))).bind fun w => ((dw.f k b f w.1 w.2).bind fun x => ((aY.f k x).bind fun y => (if (decide ((wrap64 ((wrap64 ((wrap64 (y + c)) - n)) + 1)) ≤ o)) = true then ((aN.j1 k a d e t 24 f g i j m n o p).map aN.enc) else ((aN.j1 k a d e t 16 f g i j m n o p).map aN.enc))))) else ((aN.j1 k a d e t 0 f g i j m n o p).map aN.enc)))))) (tc h)⟩
 ·cases h
theorem aN.s1 : jd f71 aN.E aN.p1 := fun k s r h => by
 dsimp only [aN.p1] at h
 split at h
 ·rename_i a b c d e f g i j m n o p
  rcases k with _ | k
  ·cases h
  simp only [aN.j1] at h
  exact ⟨k, rfl, via (if (decide ((d.length : Int) > 0)) = true then (if (0 : Int) ≤ 0 then (if (0 : Int) < (d.length : Int) then (if (0 : Int) ≤ IntKind.wrap .u64 (wrap64 (n - 1)) then ((b_.f f).bind fun q => ((bK.f a q 0 0).bind fun t => (some (.tup [.v (.int .u64 (Go.bits .or .u64 t (IntKind.wrap .u64 ((shl .u64 (IntKind.wrap .u64 (wrap64 (c - b))) (IntKind.wrap .u64 (wrap64 (n - 1)))) + (rd d 0))))), .v (.int .i64 e)])))) else (none)) else (none)) else (none)) else (if (0 : Int) ≤ IntKind.wrap .u64 (wrap64 (n - 1)) then ((b_.f f).bind fun u => ((bK.f a u 0 0).bind fun v => (some (.tup [.v (.int .u64 (Go.bits .or .u64 v (IntKind.wrap .u64 ((shl .u64 (IntKind.wrap .u64 (wrap64 (c - b))) (IntKind.wrap .u64 (wrap64 (n - 1)))) + 0)))), .v (.int .i64 e)])))) else (none))) (tc h)⟩
 ·cases h
theorem aN.pts : ∀ k, iV prog (bW f71) (aN.E k) GOk (Fin prog f71) := iI stays mixed aN.fok [(9, aN.p0), (19, aN.p1)] ⟨aN.s0, aN.s1, trivial⟩
theorem aN.ok (k : Nat) : AO 71 (aN.app k) := dZ stays mixed (aN.fok k) (aN.pts k) fun l K r h => by
 dsimp only [aN.app] at h
 split at h
 ·rename_i a b c d e f
  exact fin (enc := aN.enc) h rfl fun y h => by
   simp only [aN.f] at h
   exact via ((bI.f d).bind fun g => (if ((g.length : Int) == 0) = true then ((b_.f c).bind fun i => ((dJ.f a i).bind fun j => (some (.tup [.v (.int .u64 j), .v (.int .i64 0)])))) else ((bJ.f a).bind fun m => ((eU.f k c d e f).bind fun n => (if (decide ((wrap64 ((wrap64 (n - m.2.1)) + 1)) < (wrap64 ((wrap64 (m.2.2.1 - m.2.1)) + 1)))) = true then ((aN.j0 k a b n (wrap64 ((wrap64 (m.2.2.1 - m.2.1)) + 1)) (wrap64 ((wrap64 (m.2.2.1 - m.2.1)) + 1)) c d e f m.1 m.2.1 m.2.2.1 m.2.2.2.1).map aN.enc) else ((aN.j0 k a b n (wrap64 ((wrap64 (m.2.2.1 - m.2.1)) + 1)) (wrap64 ((wrap64 (n - m.2.1)) + 1)) c d e f m.1 m.2.1 m.2.2.1 m.2.2.2.1).map aN.enc)))))) (tc h)
 ·cases h
def bC.enc (r : Int × Int × Int) : AV := .tup [.v (.int .u64 r.1), .v (.int .i64 r.2.1), .v (.int .i64 r.2.2)]
def bC.app (k : Nat) : List AV → (AV → Option AV) → Option AV := fun l K => match l with
 | [.v (.int .i64 a), .v (.int .i64 b), .v (.string c)] => (bC.f k a b c).bind fun r => K (bC.enc r)
 | _ => none
def bC.p0 (k : Nat) : Pt := ⟨[.c [1, 1, 1, 1, 1, 1, 1, 0, 0, 0], .c [1, 1, 1, 1, 1, 1, 1, 0, 0, 1], .b 0, .c [1, 1, 1, 1, 1, 1, 1, 1]], [(0, none, []), (1, none, []), (11, none, []), (12, none, [])], [(10, [])], [], [], fun s => match s with
 | ⟨[(0, .v (.int .i64 a)), (1, .v (.int .i64 b)), (11, .v (.bool c)), (12, .v (.int .u64 d)), (10, .ptr 10 0)], [(10, .cells [.v (.bool e), .v (.bool f), .v (.bool g), .v (.string i), .v (.int .i64 j)])]⟩ => (bC.j0 k a b c d e f g i j).map bC.enc
 | _ => none⟩
def bC.E (k : Nat) : Env := ⟨107, tys, [(62, aQ.app k), (63, ah.app k), (64, eG.app), (65, dR.app), (66, au.app k), (67, dJ.app), (68, aj.app k), (70, dU.app k), (69, dS.app k), (71, aN.app k)], [(10, bC.p0 k)], [], false, [22, 3, 3], false⟩
theorem bC.fok (k : Nat) : FO 15 f15 (bW f15) (bC.E k) := fo fG func15 ⟨aQ.ok k, ⟨ah.ok k, ⟨eG.ok, ⟨dR.ok, ⟨au.ok k, ⟨dJ.ok, ⟨aj.ok k, ⟨dU.ok k, ⟨dS.ok k, ⟨aN.ok k, trivial⟩⟩⟩⟩⟩⟩⟩⟩⟩⟩
theorem bC.s0 : jd f15 bC.E bC.p0 := fun k s r h => by
 dsimp only [bC.p0] at h
 split at h
 ·rename_i a b c d e f g i j
  rcases k with _ | k
  ·cases h
  simp only [bC.j0] at h
  exact ⟨k, rfl, via (if (!c) = true then (some (.tup [.v (.int .u64 0), .v (.int .i64 0), .v (.int .i64 8)])) else (if g = true then ((eG.f a).bind fun m => (some (.tup [.v (.int .u64 m), .v (.int .i64 0), .v (.int .i64 0)]))) else (if f = true then ((dR.f a d).bind fun n => (some (.tup [.v (.int .u64 n), .v (.int .i64 0), .v (.int .i64 0)]))) else ((au.f k i).bind fun o => (if ((o.1.length : Int) == 0) = true then ((dJ.f a d).bind fun p => (some (.tup [.v (.int .u64 p), .v (.int .i64 0), .v (.int .i64 0)]))) else ((aj.f k o.1).bind fun q => (if (decide ((wrap64 ((mx (-500) (mn (wrap64 ((wrap64 ((q.1.size : Int) - 1)) + j)) 500)) - (wrap64 ((q.1.size : Int) - 1)))) ≥ 0)) = true then ((dU.f k (wrap64 ((mx (-500) (mn (wrap64 ((wrap64 ((q.1.size : Int) - 1)) + j)) 500)) - (wrap64 ((q.1.size : Int) - 1))))).bind fun t => ((dS.f k o.1 t).bind fun u => ((aN.f k a b e u ([1] : List Int) 0).bind fun v => (some (.tup [.v (.int .u64 v.1), .v (.int .i64 v.2), .v (.int .i64 0)]))))) else ((dU.f k (wrap64 (-(wrap64 ((mx (-500) (mn (wrap64 ((wrap64 ((q.1.size : Int) - 1)) + j)) 500)) - (wrap64 ((q.1.size : Int) - 1))))))).bind fun w => ((aN.f k a b e o.1 w 0).bind fun x => (some (.tup [.v (.int .u64 x.1), .v (.int .i64 x.2), .v (.int .i64 0)]))))))))))) (tc h)⟩
 ·cases h
theorem bC.pts : ∀ k, iV prog (bW f15) (bC.E k) GOk (Fin prog f15) := iI stays mixed bC.fok [(10, bC.p0)] ⟨bC.s0, trivial⟩
theorem bC.ok (k : Nat) : AO 15 (bC.app k) := dZ stays mixed (bC.fok k) (bC.pts k) fun l K r h => by
 dsimp only [bC.app] at h
 split at h
 ·rename_i a b c
  exact fin (enc := bC.enc) h rfl fun y h => by
   simp only [bC.f] at h
   exact via ((aQ.f k a b ([] : List Int)).bind fun d => (if (d != 0) = true then (some (.tup [.v (.int .u64 0), .v (.int .i64 0), .v (.int .i64 d)])) else (if (decide ((c.size : Int) > 2000)) = true then (some (.tup [.v (.int .u64 0), .v (.int .i64 0), .v (.int .i64 5)])) else ((ah.f k c).bind fun e => (if e.1 = true then ((bC.j0 k a b e.2.2.2.2.2 1 e.1 e.2.1 e.2.2.1 e.2.2.2.1 e.2.2.2.2.1).map bC.enc) else ((bC.j0 k a b e.2.2.2.2.2 0 e.1 e.2.1 e.2.2.1 e.2.2.2.1 e.2.2.2.2.1).map bC.enc)))))) (tc h)
 ·cases h
def dn.enc (r : Int) : AV := .v (.int .i64 r)
def dn.app : List AV → (AV → Option AV) → Option AV := fun l K => match l with
 | [.v (.int .i64 a), .v (.int .u64 b)] => (dn.f a b).bind fun r => K (dn.enc r)
 | _ => none
def dn.E : Env := ⟨25, tys, [(52, bU.app)], [], [], false, [24], false⟩
theorem dn.fok : FO 72 f72 (bW f72) (dn.E) := fo fG func72 ⟨bU.ok, trivial⟩
theorem dn.ok : AO 72 (dn.app) := dZ stays mixed (dn.fok) (dY rfl) fun l K r h => by
 dsimp only [dn.app] at h
 split at h
 ·rename_i a b
  exact fin (enc := dn.enc) h rfl fun y h => by
   simp only [dn.f] at h
   exact via ((bU.f a).bind fun c => (if (c.2.2.2.2 != 0) = true then (some (.v (.int .i64 c.2.2.2.2))) else (if (decide (c.1 < 64)) = true then (if (0 : Int) ≤ c.1 then (if ((shr .u64 b c.1) != 0) = true then (some (.v (.int .i64 4))) else (some (.v (.int .i64 0)))) else (none)) else (some (.v (.int .i64 0)))))) (tc h)
 ·cases h
def bM.enc (r : Bool × Int × Int × Int × ByteArray) : AV := .tup [.agg [.v (.bool r.1), .v (.int .u64 r.2.1), .v (.int .i64 r.2.2.1), .v (.int .u64 r.2.2.2.1)], .v (.string r.2.2.2.2)]
def bM.app (k : Nat) : List AV → (AV → Option AV) → Option AV := fun l K => match l with
 | [.v (.int .i64 a), .v (.int .u64 b)] => (bM.f k a b).bind fun r => K (bM.enc r)
 | _ => none
def bM.p0 (k : Nat) : Pt := ⟨[.c [1, 1, 1, 1, 1, 1, 0, 0], .c [1, 1, 1, 1, 1, 1, 0, 1], .c [1, 1, 1, 1, 1, 1, 1]], [(8, none, []), (10, none, []), (11, none, []), (12, none, []), (14, none, [])], [(6, [])], [], [4], fun s => match s with
 | ⟨[(8, .v (.int .i64 a)), (10, .v (.bool b)), (11, .v (.int .u64 c)), (12, .v (.int .u64 d)), (14, .v (.string e)), (6, .ptr 6 0), (4, .ptr 4 0)], [(6, .cells [.v (.int .i64 f), .v (.int .i64 g), .v (.int .i64 i), .v (.int .i64 j)]), (4, .cells [.top, .top, .top, .top])]⟩ => (bM.j0 k a b c d e f g i j).map bM.enc
 | _ => none⟩
def bM.p1 (k : Nat) : Pt := ⟨[.c [1, 1, 1, 1, 1, 1, 0, 1, 0, 1], .b 0, .c [1, 1, 1, 1, 1, 1, 1]], [(10, none, []), (11, none, []), (12, none, []), (14, none, []), (36, none, []), (37, none, [])], [(6, [])], [], [4], fun s => match s with
 | ⟨[(10, .v (.bool a)), (11, .v (.int .u64 b)), (12, .v (.int .u64 c)), (14, .v (.string d)), (36, .v (.int .i64 e)), (37, .v (.bool f)), (6, .ptr 6 0), (4, .ptr 4 0)], [(6, .cells [.v (.int .i64 g), .v (.int .i64 i), .v (.int .i64 j), .v (.int .i64 m)]), (4, .cells [.top, .top, .top, .top])]⟩ => (bM.j1 k a b c d e f g i j m).map bM.enc
 | _ => none⟩
def bM.p2 (k : Nat) : Pt := ⟨[.c [1, 1, 1, 1, 1, 1, 0, 1, 0, 1, 1, 1], .b 0, .c [1, 1, 1, 1, 1, 1, 1]], [(10, none, []), (11, none, []), (12, none, []), (14, none, []), (36, none, []), (41, none, [])], [(6, [])], [], [4], fun s => match s with
 | ⟨[(10, .v (.bool a)), (11, .v (.int .u64 b)), (12, .v (.int .u64 c)), (14, .v (.string d)), (36, .v (.int .i64 e)), (41, .v (.bool f)), (6, .ptr 6 0), (4, .ptr 4 0)], [(6, .cells [.v (.int .i64 g), .v (.int .i64 i), .v (.int .i64 j), .v (.int .i64 m)]), (4, .cells [.top, .top, .top, .top])]⟩ => (bM.j2 k a b c d e f g i j m).map bM.enc
 | _ => none⟩
def bM.E (k : Nat) : Env := ⟨87, tys, [(52, bU.app), (117, jc.app), (118, iR.app)], [(7, bM.p0 k), (100037, bM.p1 k), (100041, bM.p2 k)], [(19, [0, 1, 2, 3, 4, 5, 6, 7, 8])], false, [118, 9], false⟩
theorem bM.fok (k : Nat) : FO 74 f74 (bW f74) (bM.E k) := fo fG func74 ⟨bU.ok, ⟨jc.ok, ⟨iR.ok, trivial⟩⟩⟩
theorem bM.s0 : jd f74 bM.E bM.p0 := fun k s r h => by
 dsimp only [bM.p0] at h
 split at h
 ·rename_i a b c d e f g i j
  rcases k with _ | k
  ·cases h
  simp only [bM.j0] at h
  exact ⟨k, rfl, via (if (a == 1) = true then ((bM.j1 k b c d e a (a == 1) f g i j).map bM.enc) else ((bM.j1 k b c d e a (a == 0) f g i j).map bM.enc)) (tc h)⟩
 ·cases h
theorem bM.s1 : jd f74 bM.E bM.p1 := fun k s r h => by
 dsimp only [bM.p1] at h
 split at h
 ·rename_i a b c d e f g i j m
  rcases k with _ | k
  ·cases h
  simp only [bM.j1] at h
  exact ⟨k, rfl, via (if f = true then (some (.tup [.agg [.v (.bool false), .v (.int .u64 0), .v (.int .i64 0), .v (.int .u64 0)], .v (.string (⟨#[110, 97, 110]⟩ : ByteArray))])) else (if (e == 2) = true then ((bM.j2 k a b c d e (e == 2) g i j m).map bM.enc) else ((bM.j2 k a b c d e (e == 9) g i j m).map bM.enc))) (tc h)⟩
 ·cases h
theorem bM.s2 : jd f74 bM.E bM.p2 := fun k s r h => by
 dsimp only [bM.p2] at h
 split at h
 ·rename_i a b c d e f g i j m
  rcases k with _ | k
  ·cases h
  simp only [bM.j2] at h
  exact ⟨k, rfl, via (if f = true then (if d.size + (⟨#[105, 110, 102]⟩ : ByteArray).size ≤ 9223372036854775807 then (some (.tup [.agg [.v (.bool false), .v (.int .u64 0), .v (.int .i64 0), .v (.int .u64 0)], .v (.string (d ++ (⟨#[105, 110, 102]⟩ : ByteArray)))])) else (none)) else (if (e == 5) = true then (if (e == 5) = true then (if d.size + (⟨#[48]⟩ : ByteArray).size ≤ 9223372036854775807 then (some (.tup [.agg [.v (.bool false), .v (.int .u64 0), .v (.int .i64 0), .v (.int .u64 0)], .v (.string (d ++ (⟨#[48]⟩ : ByteArray)))])) else (none)) else (if (decide (b > 0)) = true then (if (0 : Int) ≤ wrap64 (i - 1) then (if (c == 0) = true then (if (decide (b > 1)) = true then (some (.tup [.agg [.v (.bool a), .v (.int .u64 (Go.bits .or .u64 c (shl .u64 1 (wrap64 (i - 1))))), .v (.int .i64 (wrap64 ((wrap64 ((wrap64 (j - i)) + 1)) + (wrap64 ((wrap64 (b)) - 1))))), .v (.int .u64 1)], .v (.string (⟨#[]⟩ : ByteArray))])) else (some (.tup [.agg [.v (.bool a), .v (.int .u64 (Go.bits .or .u64 c (shl .u64 1 (wrap64 (i - 1))))), .v (.int .i64 (wrap64 ((wrap64 ((wrap64 (j - i)) + 1)) + (wrap64 ((wrap64 (b)) - 1))))), .v (.int .u64 2)], .v (.string (⟨#[]⟩ : ByteArray))]))) else (some (.tup [.agg [.v (.bool a), .v (.int .u64 (Go.bits .or .u64 c (shl .u64 1 (wrap64 (i - 1))))), .v (.int .i64 (wrap64 ((wrap64 ((wrap64 (j - i)) + 1)) + (wrap64 ((wrap64 (b)) - 1))))), .v (.int .u64 2)], .v (.string (⟨#[]⟩ : ByteArray))]))) else (none)) else (some (.tup [.agg [.v (.bool a), .v (.int .u64 c), .v (.int .i64 (wrap64 ((wrap64 (j - i)) + 1))), .v (.int .u64 2)], .v (.string (⟨#[]⟩ : ByteArray))])))) else (if (e == 6) = true then (if d.size + (⟨#[48]⟩ : ByteArray).size ≤ 9223372036854775807 then (some (.tup [.agg [.v (.bool false), .v (.int .u64 0), .v (.int .i64 0), .v (.int .u64 0)], .v (.string (d ++ (⟨#[48]⟩ : ByteArray)))])) else (none)) else (if (decide (b > 0)) = true then (if (0 : Int) ≤ wrap64 (i - 1) then (if (c == 0) = true then (if (decide (b > 1)) = true then (some (.tup [.agg [.v (.bool a), .v (.int .u64 (Go.bits .or .u64 c (shl .u64 1 (wrap64 (i - 1))))), .v (.int .i64 (wrap64 ((wrap64 ((wrap64 (j - i)) + 1)) + (wrap64 ((wrap64 (b)) - 1))))), .v (.int .u64 1)], .v (.string (⟨#[]⟩ : ByteArray))])) else (some (.tup [.agg [.v (.bool a), .v (.int .u64 (Go.bits .or .u64 c (shl .u64 1 (wrap64 (i - 1))))), .v (.int .i64 (wrap64 ((wrap64 ((wrap64 (j - i)) + 1)) + (wrap64 ((wrap64 (b)) - 1))))), .v (.int .u64 2)], .v (.string (⟨#[]⟩ : ByteArray))]))) else (some (.tup [.agg [.v (.bool a), .v (.int .u64 (Go.bits .or .u64 c (shl .u64 1 (wrap64 (i - 1))))), .v (.int .i64 (wrap64 ((wrap64 ((wrap64 (j - i)) + 1)) + (wrap64 ((wrap64 (b)) - 1))))), .v (.int .u64 2)], .v (.string (⟨#[]⟩ : ByteArray))]))) else (none)) else (some (.tup [.agg [.v (.bool a), .v (.int .u64 c), .v (.int .i64 (wrap64 ((wrap64 (j - i)) + 1))), .v (.int .u64 2)], .v (.string (⟨#[]⟩ : ByteArray))])))))) (tc h)⟩
 ·cases h
theorem bM.pts : ∀ k, iV prog (bW f74) (bM.E k) GOk (Fin prog f74) := iI stays mixed bM.fok [(7, bM.p0), (100037, bM.p1), (100041, bM.p2)] ⟨bM.s0, bM.s1, bM.s2, trivial⟩
theorem bM.ok (k : Nat) : AO 74 (bM.app k) := dZ stays mixed (bM.fok k) (bM.pts k) fun l K r h => by
 dsimp only [bM.app] at h
 split at h
 ·rename_i a b
  exact fin (enc := bM.enc) h rfl fun y h => by
   simp only [bM.f] at h
   exact via ((bU.f a).bind fun c => ((jc.f a b).bind fun d => ((iR.f a b).bind fun e => (if e.1 = true then ((bM.j0 k d.1 e.1 e.2.1 e.2.2.1 (⟨#[45]⟩ : ByteArray) c.1 c.2.1 c.2.2.1 c.2.2.2.1).map bM.enc) else ((bM.j0 k d.1 e.1 e.2.1 e.2.2.1 (⟨#[]⟩ : ByteArray) c.1 c.2.1 c.2.2.1 c.2.2.2.1).map bM.enc))))) (tc h)
 ·cases h
def eu.enc (r : ByteArray) : AV := .v (.string r)
def eu.app : List AV → (AV → Option AV) → Option AV := fun l K => match l with
 | [.agg [.v (.bool a), .v (.int .u64 b), .v (.int .i64 c), .v (.int .u64 d)]] => (eu.f a b c d).bind fun r => K (eu.enc r)
 | _ => none
def eu.E : Env := ⟨5, tys, [], [], [], false, [9], false⟩
theorem eu.fok : FO 76 f76 (bW f76) (eu.E) := fo fG func76 trivial
theorem eu.ok : AO 76 (eu.app) := dZ stays mixed (eu.fok) (dY rfl) fun l K r h => by
 dsimp only [eu.app] at h
 split at h
 ·rename_i a b c d
  exact fin (enc := eu.enc) h rfl fun y h => by
   simp only [eu.f] at h
   exact via (if a = true then (some (.v (.string (⟨#[45]⟩ : ByteArray)))) else (some (.v (.string (⟨#[]⟩ : ByteArray))))) (tc h)
 ·cases h
def iy.enc (r : ByteArray) : AV := .v (.string r)
def iy.app : List AV → (AV → Option AV) → Option AV := fun l K => match l with
 | [.v (.string a), .v (.int .i64 b)] => (iy.f a b).bind fun r => K (iy.enc r)
 | _ => none
def iy.E : Env := ⟨39, tys, [(92, strings_Repeat.app)], [], [(5, [0, 1, 2, 3, 4, 5, 6, 7, 8, 9, 10])], false, [9], false⟩
theorem iy.fok : FO 77 f77 (bW f77) (iy.E) := fo fG func77 ⟨strings_Repeat.ok, trivial⟩
theorem iy.ok : AO 77 (iy.app) := dZ stays mixed (iy.fok) (dY rfl) fun l K r h => by
 dsimp only [iy.app] at h
 split at h
 ·rename_i a b
  exact fin (enc := iy.enc) h rfl fun y h => by
   simp only [iy.f] at h
   exact via (if (decide (b < 0)) = true then ((strings_Repeat.f (⟨#[48]⟩ : ByteArray) (wrap64 ((wrap64 (-b)) - 1))).bind fun c => (if (⟨#[48, 46]⟩ : ByteArray).size + c.size ≤ 9223372036854775807 then (if ((⟨#[48, 46]⟩ : ByteArray) ++ c).size + a.size ≤ 9223372036854775807 then (some (.v (.string (((⟨#[48, 46]⟩ : ByteArray) ++ c) ++ a)))) else (none)) else (none))) else (if (decide (b ≥ (wrap64 ((a.size : Int) - 1)))) = true then ((strings_Repeat.f (⟨#[48]⟩ : ByteArray) (wrap64 ((wrap64 (b - (a.size : Int))) + 1))).bind fun d => (if a.size + d.size ≤ 9223372036854775807 then (some (.v (.string (a ++ d)))) else (none))) else (if (0 : Int) ≤ wrap64 (b + 1) then (if (wrap64 (b + 1) : Int) ≤ (a.size : Int) then (if (a.extract 0 (wrap64 (b + 1) : Int).toNat).size + (⟨#[46]⟩ : ByteArray).size ≤ 9223372036854775807 then (if (0 : Int) ≤ wrap64 (b + 1) then (if (wrap64 (b + 1) : Int) ≤ (a.size : Int) then (if ((a.extract 0 (wrap64 (b + 1) : Int).toNat) ++ (⟨#[46]⟩ : ByteArray)).size + (a.extract (wrap64 (b + 1) : Int).toNat ((a.size : Int) : Int).toNat).size ≤ 9223372036854775807 then (some (.v (.string (((a.extract 0 (wrap64 (b + 1) : Int).toNat) ++ (⟨#[46]⟩ : ByteArray)) ++ (a.extract (wrap64 (b + 1) : Int).toNat ((a.size : Int) : Int).toNat))))) else (none)) else (none)) else (none)) else (none)) else (none)) else (none)))) (tc h)
 ·cases h
def ji.enc (r : ByteArray) : AV := .v (.string r)
def ji.app : List AV → (AV → Option AV) → Option AV := fun l K => match l with
 | [.v (.string a), .v (.int .i64 b)] => (ji.f a b).bind fun r => K (ji.enc r)
 | _ => none
def ji.E : Env := ⟨21, tys, [(120, strconv_Itoa.app)], [], [], false, [9], false⟩
theorem ji.fok : FO 78 f78 (bW f78) (ji.E) := fo fG func78 ⟨strconv_Itoa.ok, trivial⟩
set_option maxHeartbeats 2000000 in
theorem ji.ok : AO 78 (ji.app) := dZ stays mixed (ji.fok) (dY rfl) fun l K r h => by
 dsimp only [ji.app] at h
 split at h
 ·rename_i a b
  exact fin (enc := ji.enc) h rfl fun y h => by
   simp only [ji.f] at h
   exact via (if (0 : Int) ≤ 1 then (if (1 : Int) ≤ (a.size : Int) then (if (decide ((a.size : Int) > 1)) = true then (if (0 : Int) ≤ 1 then (if (1 : Int) ≤ (a.size : Int) then (if (⟨#[46]⟩ : ByteArray).size + (a.extract (1 : Int).toNat ((a.size : Int) : Int).toNat).size ≤ 9223372036854775807 then (if (a.extract 0 (1 : Int).toNat).size + ((⟨#[46]⟩ : ByteArray) ++ (a.extract (1 : Int).toNat ((a.size : Int) : Int).toNat)).size ≤ 9223372036854775807 then (if ((a.extract 0 (1 : Int).toNat) ++ ((⟨#[46]⟩ : ByteArray) ++ (a.extract (1 : Int).toNat ((a.size : Int) : Int).toNat))).size + (⟨#[101]⟩ : ByteArray).size ≤ 9223372036854775807 then ((strconv_Itoa.f b).bind fun c => (if (((a.extract 0 (1 : Int).toNat) ++ ((⟨#[46]⟩ : ByteArray) ++ (a.extract (1 : Int).toNat ((a.size : Int) : Int).toNat))) ++ (⟨#[101]⟩ : ByteArray)).size + c.size ≤ 9223372036854775807 then (some (.v (.string ((((a.extract 0 (1 : Int).toNat) ++ ((⟨#[46]⟩ : ByteArray) ++ (a.extract (1 : Int).toNat ((a.size : Int) : Int).toNat))) ++ (⟨#[101]⟩ : ByteArray)) ++ c)))) else (none))) else (none)) else (none)) else (none)) else (none)) else (none)) else (if (a.extract 0 (1 : Int).toNat).size + (⟨#[101]⟩ : ByteArray).size ≤ 9223372036854775807 then ((strconv_Itoa.f b).bind fun d => (if ((a.extract 0 (1 : Int).toNat) ++ (⟨#[101]⟩ : ByteArray)).size + d.size ≤ 9223372036854775807 then (some (.v (.string (((a.extract 0 (1 : Int).toNat) ++ (⟨#[101]⟩ : ByteArray)) ++ d)))) else (none))) else (none))) else (none)) else (none)) (tc h)
 ·cases h
def bV.enc (r : ByteArray × Int) : AV := .tup [.v (.string r.1), .v (.int .i64 r.2)]
def bV.app (k : Nat) : List AV → (AV → Option AV) → Option AV := fun l K => match l with
 | [.v (.int .i64 a), .v (.int .u64 b)] => (bV.f k a b).bind fun r => K (bV.enc r)
 | _ => none
def bV.p0 (k : Nat) : Pt := ⟨[.c [1, 1, 1, 1, 1, 0, 1], .c [1, 1, 1, 1, 1, 1]], [(9, none, []), (10, none, []), (36, none, [])], [(7, [])], [], [], fun s => match s with
 | ⟨[(9, .v (.string a)), (10, .v (.int .i64 b)), (36, .v (.bool c)), (7, .ptr 7 0)], [(7, .cells [.v (.bool d), .v (.int .u64 e), .v (.int .i64 f), .v (.int .u64 g)])]⟩ => (bV.j0 k a b c d e f g).map bV.enc
 | _ => none⟩
def bV.E (k : Nat) : Env := ⟨49, tys, [(72, dn.app), (74, bM.app k), (75, fK.app), (76, eu.app), (77, iy.app), (78, ji.app)], [(100036, bV.p0 k)], [], false, [9, 24], false⟩
theorem bV.fok (k : Nat) : FO 20 f20 (bW f20) (bV.E k) := fo fG func20 ⟨dn.ok, ⟨bM.ok k, ⟨fK.ok, ⟨eu.ok, ⟨iy.ok, ⟨ji.ok, trivial⟩⟩⟩⟩⟩⟩
theorem bV.s0 : jd f20 bV.E bV.p0 := fun k s r h => by
 dsimp only [bV.p0] at h
 split at h
 ·rename_i a b c d e f g
  rcases k with _ | k
  ·cases h
  simp only [bV.j0] at h
  exact ⟨k, rfl, via (if c = true then ((eu.f d e f g).bind fun i => ((iy.f a b).bind fun j => (if i.size + j.size ≤ 9223372036854775807 then (some (.tup [.v (.string (i ++ j)), .v (.int .i64 0)])) else (none)))) else ((eu.f d e f g).bind fun m => ((ji.f a b).bind fun n => (if m.size + n.size ≤ 9223372036854775807 then (some (.tup [.v (.string (m ++ n)), .v (.int .i64 0)])) else (none))))) (tc h)⟩
 ·cases h
theorem bV.pts : ∀ k, iV prog (bW f20) (bV.E k) GOk (Fin prog f20) := iI stays mixed bV.fok [(100036, bV.p0)] ⟨bV.s0, trivial⟩
theorem bV.ok (k : Nat) : AO 20 (bV.app k) := dZ stays mixed (bV.fok k) (bV.pts k) fun l K r h => by
 dsimp only [bV.app] at h
 split at h
 ·rename_i a b
  exact fin (enc := bV.enc) h rfl fun y h => by
   simp only [bV.f] at h
   exact via ((dn.f a b).bind fun c => (if (c != 0) = true then (some (.tup [.v (.string (⟨#[]⟩ : ByteArray)), .v (.int .i64 c)])) else ((bM.f k a b).bind fun d => (if (d.2.2.2.2.toList != (⟨#[]⟩ : ByteArray).toList) = true then (some (.tup [.v (.string d.2.2.2.2), .v (.int .i64 0)])) else ((fK.f d.1 d.2.1 d.2.2.1 d.2.2.2.1).bind fun e => (if (decide (e.2 ≥ (-5))) = true then ((bV.j0 k e.1 e.2 (decide (e.2 ≤ 15)) d.1 d.2.1 d.2.2.1 d.2.2.2.1).map bV.enc) else ((bV.j0 k e.1 e.2 false d.1 d.2.1 d.2.2.1 d.2.2.2.1).map bV.enc))))))) (tc h)
 ·cases h
def dW.enc (r : Bool) : AV := .v (.bool r)
def dW.app (k : Nat) : List AV → (AV → Option AV) → Option AV := fun l K => match l with
 | [] => (dW.f k).bind fun r => K (dW.enc r)
 | _ => none
def dW.E (k : Nat) : Env := ⟨33, tys, [(14, gV.app k), (20, bV.app k)], [], [], false, [4], false⟩
theorem dW.fok (k : Nat) : FO 16 f16 (bW f16) (dW.E k) := fo fG func16 ⟨gV.ok k, ⟨bV.ok k, trivial⟩⟩
theorem dW.ok (k : Nat) : AO 16 (dW.app k) := dZ stays mixed (dW.fok k) (dY rfl) fun l K r h => by
 dsimp only [dW.app] at h
 split at h
 ·exact fin (enc := dW.enc) h rfl fun y h => by
   simp only [dW.f] at h
   exact via ((gV.f k 3 0 (⟨#[48, 46, 49]⟩ : ByteArray)).bind fun a => ((bV.f k 0 13653).bind fun b => (if (a.1 == 4591870180066957722) = true then (if (a.2.1 == 16) = true then (if (a.2.2 == 0) = true then (if (b.1.toList == (⟨#[48, 46, 51, 51, 51, 51]⟩ : ByteArray).toList) = true then (some (.v (.bool (b.2 == 0)))) else (some (.v (.bool false)))) else (some (.v (.bool false)))) else (some (.v (.bool false)))) else (some (.v (.bool false)))))) (tc h)
 ·cases h
def dA.enc (r : Bool) : AV := .v (.bool r)
def dA.app (k : Nat) : List AV → (AV → Option AV) → Option AV := fun l K => match l with
 | [.v (.int .i64 a), .v (.int .i64 b), .v (.string c)] => (dA.f k a b c).bind fun r => K (dA.enc r)
 | _ => none
def dA.E (k : Nat) : Env := ⟨45, tys, [(14, gV.app k), (15, bC.app k), (16, dW.app k)], [], [], false, [4], false⟩
theorem dA.fok (k : Nat) : FO 3 f3 (bW f3) (dA.E k) := fo fG func3 ⟨gV.ok k, ⟨bC.ok k, ⟨dW.ok k, trivial⟩⟩⟩
theorem dA.ok (k : Nat) : AO 3 (dA.app k) := dZ stays mixed (dA.fok k) (dY rfl) fun l K r h => by
 dsimp only [dA.app] at h
 split at h
 ·rename_i a b c
  exact fin (enc := dA.enc) h rfl fun y h => by
   simp only [dA.f] at h
   exact via ((gV.f k a b c).bind fun d => ((bC.f k a b c).bind fun e => ((dW.f k).bind fun f => (if f = true then (if (d.1 == e.1) = true then (if (d.2.1 == e.2.1) = true then (some (.v (.bool (d.2.2 == e.2.2)))) else (some (.v (.bool false)))) else (some (.v (.bool false)))) else (some (.v (.bool false))))))) (tc h)
 ·cases h
end Go.Proofs.YtafikkmnkeddpaaGreatDoor.P
namespace Go.Proofs.YtafikkmnkeddpaaGreatDoor
open Go.Lib Go.ChangeShapes Go.WideShapes Go.ChangeAt Go.RowKit
theorem caseRanges_eq : Go.Pinned.caseRanges = Lib.caseData := by kernel_rfl
theorem utf8First_eq : Go.Pinned.utf8First = Lib.firstData := by kernel_rfl
theorem Au {w : World} (h : Lib.VarReads Tryz.prog w "vernier/format.rows" Rows.laid_vernier_format_rows) : jf w := by
 obtain ⟨g, t, cs, fuel, p, hg, hty, hvar, hd⟩ := h
 obtain rfl := Option.some.inj ((show Tryz.prog.globalNamed "vernier/format.rows" = some 2 by kernel_rfl).symm.trans hg)
 obtain rfl := Option.some.inj ((show (Tryz.prog.globals[2]?).map (·.type) = some 181 by kernel_rfl).symm.trans hty)
 have hc : Tryz.prog.cellsOf 88 = 4 := by kernel_rfl
 have c1 : Tryz.prog.cellsOf 3 = 1 := by kernel_rfl
 have row : ∀ i, i < 4 → ∀ j, j < 4 → w.cell? ⟨2, 4 * i + j, none⟩ = some (.int .i64 (sV.getD (4 * i + j) 0)) := fun i hi j hj => by
  obtain ⟨fuel', d, q, hdi, he⟩ := Lib.array_elem Tryz.underlying181 hd i hi
  rw [hc] at he
  have hdd : d = .agg (([sV.getD (4 * i) 0, sV.getD (4 * i + 1) 0, sV.getD (4 * i + 2) 0, sV.getD (4 * i + 3) 0] : List Int).map fun z => .lit (.int .i64 z)) := by
   rcases (show i = 0 ∨ i = 1 ∨ i = 2 ∨ i = 3 by omega) with rfl | rfl | rfl | rfl <;> exact (Option.some.inj hdi).symm
  rw [hdd] at he
  have hcs := Lib.ints_of_struct Tryz.underlying88 (k := .i64) (fun j f hj => by
   match j, hj with
   | 0, hj => simp at hj; subst hj; exact ⟨Tryz.underlying3, rfl, c1⟩
   | 1, hj => simp at hj; subst hj; exact ⟨Tryz.underlying3, rfl, c1⟩
   | 2, hj => simp at hj; subst hj; exact ⟨Tryz.underlying3, rfl, c1⟩
   | 3, hj => simp at hj; subst hj; exact ⟨Tryz.underlying3, rfl, c1⟩
   | j + 4, hj => simp at hj) (by rw [hc]; rfl) he
  have e := congrArg (·[j]?) hcs
  simp only [List.getElem?_take, List.getElem?_drop] at e
  rw [World.var?_cell hg hvar (4 * i + j), ← Array.getElem?_toList]
  rw [if_pos hj, Nat.mul_comm i 4] at e
  rw [e]
  rcases (show j = 0 ∨ j = 1 ∨ j = 2 ∨ j = 3 by omega) with rfl | rfl | rfl | rfl <;> rfl
 refine ⟨block_lt_of_cell (row 0 (by decide) 0 (by decide)), fun j hj => ?_⟩
 have := row (j / 4) (by omega) (j % 4) (by omega)
 rwa [show 4 * (j / 4) + j % 4 = j by omega] at this
set_option maxRecDepth 100000 in
theorem N7 {W : World} (h : laidMetH Tryz.prog Rows.deciParsesRow.laid W) : Tabs W := by
 rw [MakeChecks.laidMetH_plain _ _ _ (by kernel_rfl)] at h
 have h1 := Go.laidMet.tail h
 have h2 := Go.laidMet.tail h1
 have t1 : Lib.TabIs Tryz.prog W "math/bits.deBruijn64tab" .u8 (Lib.deBruijn64tab.map fun (z : Nat) => (z : Int)) :=
  Lib.tabIs_of_head (g := 3) (t := 261) (e := 5) (n := 64) (by kernel_rfl) (by kernel_rfl) (by kernel_rfl) (by kernel_rfl) (by kernel_rfl) (by kernel_rfl) h1
 have t2 : Lib.TabIs Tryz.prog W "internal/strconv.uint64pow10" .u64 Lib.pow10Tab :=
  Lib.tabIs_of_head (g := 6) (t := 282) (e := 22) (n := 20) (by kernel_rfl) (by kernel_rfl) (by kernel_rfl) (by kernel_rfl) (by kernel_rfl) (by kernel_rfl) h2
 refine ⟨?_, ?_, ?_, ?_, t2⟩
 ·have hc : ∀ j, j < 64 → W.cell? ⟨3, j, none⟩ = some (.int .u8 ((Lib.deBruijn64tab.map fun (z : Nat) => (z : Int)).getD j 0)) := fun j hj => t1.cell (by kernel_rfl) j hj
  refine ⟨block_lt_of_cell (hc 0 (by decide)), fun j hj => ?_⟩
  rw [hc j hj]
  simp only [List.getD_eq_getElem?_getD, List.getElem?_map]
  cases Lib.deBruijn64tab[j]? <;> rfl
 ·exact Au (Lib.laidMet.reads h (by simp [Rows.deciParsesRow]))
 ·exact utf8Tabs_of_reads (ρ := Tryz.pV) { Tryz.yh with } ⟨by kernel_rfl, by kernel_rfl, by kernel_rfl, by kernel_rfl, by kernel_rfl, by kernel_rfl, by kernel_rfl⟩
   (Lib.laidMet.reads h (by rw [← utf8First_eq]; simp [Rows.deciParsesRow, Rows.laid_unicode_utf8_first])) (Lib.laidMet.reads h (by
    have e : Lib.acceptData = Rows.laid_unicode_utf8_acceptRanges := by kernel_rfl
    rw [e]
    simp [Rows.deciParsesRow]))
 ·exact caseVar_of_reads (ρ := Tryz.pV) { Tryz.yh with } Tryz.yh.t206 ⟨by kernel_rfl, by kernel_rfl, by kernel_rfl, by kernel_rfl, by kernel_rfl, by kernel_rfl⟩
   (Lib.laidMet.reads h (by rw [← caseRanges_eq]; simp [Rows.deciParsesRow, Rows.laid_unicode_CaseRanges]))
theorem Qv {W : World} (h : laidMetH Tryz.prog Rows.deciParsesRow.laid W) : GOk W :=
 have t := N7 h
 ⟨fun w' hb => ⟨t.tz.below hb, t.rows.below hb, Utf8Tabs_below t.u8 hb, CaseVar_below t.cs hb, Lib.tabBelow_of_tabIs t.p10 w' hb⟩⟩
end Go.Proofs.YtafikkmnkeddpaaGreatDoor
namespace Go.Proofs.YtafikkmnkeddpaaGreatDoor
open Go.ChangeMaps Go.ChangeShapes Go.WideShapes Go.ChangeAt Go.RowKit Go.Joins
theorem own : ownKnob Tryz.prog.godebug = none := by kernel_rfl
variable {H : Type} {enc : TypeId × Value → H}
set_option maxRecDepth 100000 in
theorem lifted (os : Os) (started : os.Started) (H : Type) (enc : TypeId × Value → H) :
  ReturnsInHanded {} Tryz.checked os 3 .any (fun w args => (Rows.deciParsesSpec.pre enc Tryz.prog Tryz.f3 [] false w args ∧ laidMetH Tryz.prog Rows.deciParsesRow.laid w) ∧ sizedMet enc Tryz.prog Tryz.f3 (OpenSpec.ofChange Rows.deciParsesSpec) false w args)
   (Rows.deciParsesSpec.post enc Tryz.prog Tryz.f3 false true false false) := by
 refine returnsInHanded_of_change_and (C := Tryz.checked) (X := fun w _ => laidMetH Tryz.prog Rows.deciParsesRow.laid w) (fun _ _ _ hh h => h.of_heap hh) own started (by kernel_rfl) Tryz.func3
  (ChangeSpec.witness_shaped (enc := enc) (C := Tryz.checked) (os := os) (X := fun w _ => laidMetH Tryz.prog Rows.deciParsesRow.laid w) false (World.laidAll Tryz.prog os Rows.deciParsesRow.laid) #[.int .i64 0, .int .i64 0, .string ⟨#[]⟩] 8 (World.laidAll_os _ _ _)
   (World.shaped_of_ZipB (by kernel_rfl) (by kernel_rfl)) (by kernel_rfl) (by kernel_rfl) (by kernel_rfl)
   (by rw [MakeChecks.laidMetH_plain _ _ _ (by kernel_rfl)]; exact laidMet_laidAll _ (by kernel_rfl) (by kernel_rfl))) ?_
 intro W base args ds gs before hval0 hW _ _ hL _
 have hval : ∀ (j : Nat) t v, Tryz.f3.params[j]? = some t → args[j]? = some v → Value.okWide Tryz.prog W .any base t v := hval0
 have hW' := hW
 obtain ⟨p, q, hA0, hV, rfl, hfz, hnd⟩ := hW
 have hA : DataW.TrodAll enc Tryz.prog W 0 (fun _ => true) true Tryz.f3.params.toList args.toList ds p := hA0
 rw [Tryz.params3] at hA hval
 obtain ⟨v0, v1, v2, d0, d1, d2, p0, p1, p2, rfl, rfl, rfl, h0, h1, h2⟩ := trodAll_three hA
 obtain ⟨rfl, rfl⟩ := trodVars_none hV
 obtain ⟨a, rfl, rfl, rfl, w0⟩ := open_int Tryz.underlying3 (hval 0 3 v0 rfl rfl) h0
 obtain ⟨m, rfl, rfl, rfl, w1⟩ := open_int Tryz.underlying3 (hval 1 3 v1 rfl rfl) h1
 obtain ⟨s, rfl, rfl, rfl, w2⟩ := open_string Tryz.underlying9 (hval 2 9 v2 rfl rfl) h2
 have hG := Qv hL
 clear hA0 hval0
 simp only [List.append_nil] at hW'
 obtain ⟨k, hk⟩ := P.xI a m s
 refine (E.SA (x := .bool true) (l := [.v (.int .i64 a), .v (.int .i64 m), .v (.string s)]) (P.dA.ok k) hG (.cons _ _ _ _ (.v _) (.cons _ _ _ _ (.v _) (.cons _ _ _ _ (.v _) .nil))) (by show (P.dA.f k a m s).bind _ = _; rw [hk]; rfl)).mono fun e W' ⟨he, hb⟩ => ?_
 subst he
 exact ⟨_, rfl, _, _, _, [], [], [], hW', trodAll_cons_mk (shut_bool Tryz.underlying4 _) trodAll_mk0, trodAll_cons_mk (shut_int Tryz.underlying3 w0) (trodAll_cons_mk (shut_int Tryz.underlying3 w1) (trodAll_cons_mk (shut_string Tryz.underlying9 w2) trodAll_mk0)), rfl, hb.frame _, fun h => by cases h⟩
theorem Ce {P : Program} {f : FuncId} {fn : Func} {s : ChangeSpec} {c : OpenClaim}
  (h1 : (c.wf (OpenSpec.ofChange s) && laidOutB P && mapsRowed P && fn.params.all (P.readableRec ·) && namedTie P c.named s.vars) = true)
  (h2 : ((c.stops == []) && (P.stops == []) && (c.knobs == []) && (P.stopKnobs == [])) = true)
  (h3 : (c.inPlace == P.inPlace f) = true) (h4 : (c.unfollowed == P.unfollowed f) = true) (h5 : (c.recurses == P.recurses f) = true) (h6 : (c.named == P.varsNamed f) = true)
  (h7 : ((c.maps == (fn.params.toList ++ s.plain.varTypes P).any (P.mapsRec ·)) && (c.ifaces == (fn.params.toList ++ s.plain.varTypes P).any (P.ifacesRec ·)) && (c.mapsOut == P.mapsAmong fn.resultTypes.toList) &&
   (c.loops == (fn.params.toList ++ s.plain.varTypes P).any (P.loopsFrom ·)) && (c.wideKeys == (fn.params.toList ++ s.plain.varTypes P ++ fn.resultTypes.toList).any (P.wideKeysFrom ·)) &&
   s.vars.all (P.varReadable ·) && fn.resultTypes.all (fun t => P.readableRec t && decide (t < P.types.size)) && (c.ifacesOut == fn.resultTypes.toList.any (P.ifacesRec ·)) && (c.loopsOut == fn.resultTypes.toList.any (P.loopsFrom ·)) && (c.plainKeys == P.plainKeys) && c.shortTexts.isNone) = true)
  (h8 : (P.stopsHeard && P.mayEnter) = true) (h9 : ((c.lifted == P.liftsFinal) && (P.make == some c.make)) = true)
  (h10 : ((c.kinds == (if c.domain.isEmpty then [] else fn.params.toList.map fun t => match P.underlying t with | some (.int k) => some k | _ => none)) && (c.pinned == c.pinnedBy)) = true)
  (h11 : ((c.veiled == (fn.params.toList ++ s.plain.varTypes P ++ fn.resultTypes.toList).any (P.veiledRec ·)) && c.veiledFits P fn.params.toList (fn.params.toList ++ s.plain.varTypes P ++ fn.resultTypes.toList)) = true) : joinedFacts P f fn s c = true := by
 simp only [joinedFacts, Bool.and_eq_true] at *
 obtain ⟨⟨⟨⟨a1, a2⟩, a3⟩, a4⟩, a5⟩ := h1
 obtain ⟨⟨⟨b1, b2⟩, b3⟩, b4⟩ := h2
 obtain ⟨⟨⟨⟨⟨⟨⟨⟨⟨⟨c1, c2⟩, c3⟩, c4⟩, c5⟩, c6⟩, c7⟩, c8⟩, c9⟩, c10⟩, c11⟩ := h7
 obtain ⟨d1, d2⟩ := h8
 obtain ⟨e1, e2⟩ := h9
 obtain ⟨f1, f2⟩ := h10
 obtain ⟨g1, g2⟩ := h11
 and_intros <;> assumption
noncomputable abbrev pg : Program := Tryz.pinned.checked.prog
noncomputable abbrev fn0 : Func := Tryz.f3
noncomputable abbrev cl : OpenClaim := Rows.deciParsesRow
noncomputable abbrev sp : ChangeSpec := Rows.deciParsesSpec
theorem jo1 : (cl.wf (OpenSpec.ofChange sp) && laidOutB pg && mapsRowed pg && fn0.params.all (pg.readableRec ·) && namedTie pg cl.named sp.vars) = true := by kernel_rfl
theorem jo3 : (cl.inPlace == pg.inPlace 3) = true := by kernel_rfl
theorem jo4 : (cl.unfollowed == pg.unfollowed 3) = true := by kernel_rfl
theorem jo5 : (cl.recurses == pg.recurses 3) = true := by kernel_rfl
theorem jo6 : (cl.named == pg.varsNamed 3) = true := by kernel_rfl
theorem jo8 : (pg.stopsHeard && pg.mayEnter) = true := by kernel_rfl
theorem jo9 : ((cl.lifted == pg.liftsFinal) && (pg.make == some cl.make)) = true := by kernel_rfl
theorem joined : joinedFacts pg 3 fn0 sp cl = true :=
 Ce jo1 (by kernel_rfl) jo3 jo4 jo5 jo6 (by kernel_rfl) jo8 jo9 (by kernel_rfl) (by kernel_rfl)
theorem holds : Rows.DeciParsesSaid :=
 OpenClaim.holds_of_wide 3 Tryz.f3 rfl rfl rfl rfl rfl rfl rfl ⟨rfl, rfl, rfl, rfl, rfl⟩ rfl rfl rfl rfl rfl (by kernel_rfl) Tryz.func3 joined
  (of_decide_eq_true (by kernel_rfl)) (by unfold Func.isWrapper; first | (rw [if_pos (by decide +kernel)]; kernel_rfl) | (rw [if_neg (by decide +kernel)]; exact ⟨rfl, rfl⟩))
  (fun os started H enc _ => lifted os started H enc)
theorem mainIs : pg.mainIs = some (true, "a428c48d2c159c322eb171410f219799c82a6e30d22fa21a80504f9541438305".toList) := by kernel_rfl
theorem looks : pg.looks [] = false := by kernel_rfl
theorem goes : cl.goesBy pg = false := by kernel_rfl
theorem wft : cl.wfByText (OpenSpec.ofChange sp) = true := by kernel_rfl
theorem proved : Rows.DeciParsesCardSaid :=
 Claim7.holds_tied_plain_at .later [] [.data, .data, .data, .data, .data, .pinned, .pinned] true (true, "a428c48d2c159c322eb171410f219799c82a6e30d22fa21a80504f9541438305") false
  holds (fun _ h => by cases h) wft (fun _ h => by cases h) deciParses_row_tie rfl ⟨rfl, rfl⟩ mainIs rfl
  (fun f fn hf hfn => by
   obtain rfl : f = 3 := Option.some.inj ((show Tryz.prog.funcNamed "vernier/vernierlaw16.DeciParses" = some 3 by kernel_rfl).symm.trans hf) |>.symm
   obtain rfl : fn = Tryz.f3 := (Option.some.inj (Tryz.func3.symm.trans hfn)).symm
   exact ⟨looks.symm, fun j t ht => by
    rw [Tryz.params3] at ht
    have hm : t ∈ [3, 3, 9] := by simpa using Array.mem_of_getElem? ht
    have hall : ([3, 3, 9].all fun u => !Tryz.prog.wantsStandIn u) = true := by kernel_rfl
    exact (show Tryz.prog.wantsStandIn t = false by simpa using List.all_eq_true.1 hall t hm)⟩)
  goes.symm
#print axioms proved
end Go.Proofs.YtafikkmnkeddpaaGreatDoor
