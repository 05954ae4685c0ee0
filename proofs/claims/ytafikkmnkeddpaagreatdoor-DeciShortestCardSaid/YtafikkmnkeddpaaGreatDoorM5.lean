/- Part 5 of the proof: see the last text. Condition: none. -/
import Derived.Test.YtafikkmnkeddpaaGreatDoorM4
set_option linter.unusedVariables false
set_option linter.unusedSimpArgs false
namespace Go.Proofs.YtafikkmnkeddpaaGreatDoor
theorem QA {r d : Nat} : qm r d = 3 ↔ d < 2 * r := by
 unfold qm
 (repeat' split) <;> omega
theorem QB {r d : Nat} : qm r d = 2 ↔ r ≠ 0 ∧ 2 * r = d := by
 unfold qm
 (repeat' split) <;> omega
theorem OY (neg : Bool) (u l : Nat) : jq 0 neg u l = if l = 3 ∨ (l = 2 ∧ u % 2 = 1) then u + 1 else u := by
 unfold jq xR
 simp only [if_pos, Bool.or_eq_true, decide_eq_true_eq, Bool.and_eq_true]
 by_cases h : l = 3 ∨ (l = 2 ∧ u % 2 = 1)
 ·rw [if_pos h, if_pos ⟨by omega, h⟩]
 ·rw [if_neg h, if_neg (fun e => h e.2)]
theorem BX {A D : Nat} (hD : 0 < D) (neg : Bool) : ∃ u r, u = A / D ∧ A = u * D + r ∧ r < D ∧ jq 0 neg (A / D) (lOf A D) = if D < 2 * r ∨ (2 * r = D ∧ u % 2 = 1) then u + 1 else u := by
 refine ⟨A / D, A % D, rfl, ?_, Nat.mod_lt _ hD, ?_⟩
 ·rw [Nat.mul_comm]; exact (Nat.div_add_mod A D).symm
 ·rw [OY]
  unfold lOf
  simp only [QA, QB]
  by_cases h : D < 2 * (A % D) ∨ 2 * (A % D) = D ∧ A / D % 2 = 1
  ·rw [if_pos h, if_pos (by omega)]
  ·rw [if_neg h, if_neg (by omega)]
theorem JJ {F : Fm} (hF : F.Ok) {num den : Nat} (hn : num ≠ 0) (hd : 0 < den) {k n : Nat} (hn1 : n < 2 ^ F.P) (hn0 : n ≠ 0) (hk : k ≠ 0 → 2 ^ (F.P - 1) ≤ n) {e : Int} (he : e = F.emin - F.P + 1 + k) {bl : Nat} (hbl : bl = if n = 2 ^ (F.P - 1) ∧ k ≠ 0 then 1 else 2)
  {A B : Nat} (hA : A = upN num 0 (e - 2)) (hB : B = dnN den 0 (e - 2)) :
  wz F 0 num den = k * 2 ^ (F.P - 1) + n ↔ (4 * (n * B) < A + bl * B ∧ A < 4 * (n * B) + 2 * B) ∨ (n % 2 = 0 ∧ 4 * (n * B) ≤ A + bl * B ∧ A ≤ 4 * (n * B) + 2 * B) := by
 obtain ⟨ub, uk⟩ := ER hF hn hd
 have hB0 : 0 < B := by rw [hB]; exact P5 hd _ _
 have hP := hF.p2
 have hq : qOf F num den = F.emin - F.P + 1 + kOf F num den := by unfold kOf; unfold qOf; omega
 have e2 : 2 ^ F.P = 2 * 2 ^ (F.P - 1) := by rw [← Nat.pow_succ']; congr 1; omega
 have hev : 2 ^ (F.P - 1) % 2 = 0 := by
  rw [show F.P - 1 = (F.P - 2) + 1 by omega, Nat.pow_succ]; omega
 have hH := Nat.two_pow_pos (F.P - 1)
 unfold wz
 rw [e2] at ub hn1
 have hb2 : bl = 1 ∨ bl = 2 := by rw [hbl]; split <;> simp
 have hblB : bl * B = B ∨ bl * B = 2 * B := by rcases hb2 with h | h <;> rw [h] <;> simp
 have hblB1 : B ≤ bl * B ∧ bl * B ≤ 2 * B := by omega
 generalize kOf F num den = kq at *
 rcases Int.lt_trichotomy (qOf F num den) e with hlt | heq | hgt
 ·
  have hk0 : k ≠ 0 := by omega
  have hnH := hk hk0
  have cl := uO 0 false (plU num den 0 (qOf F num den)) (plL num den 0 (qOf F num den))
  have nB := Nat.mul_le_mul_right B hnH
  rcases Int.lt_or_le (qOf F num den) (e - 1) with h2 | h2
  ·have hc := qF num den 0 (qOf F num den) (e - 2) (by omega)
   have hle : plU num den 0 (e - 2) ≤ plU num den 0 (qOf F num den) := by rw [hc]; exact Nat.div_le_self _ _
   have hAB : A < plU num den 0 (qOf F num den) * B + B := by
    have : A / B = plU num den 0 (e - 2) := by rw [hA, hB]; rfl
    have h3 := Nat.div_add_mod A B
    have h4 := Nat.mod_lt A hB0
    have h5 : B * (A / B) ≤ plU num den 0 (qOf F num den) * B := by rw [Nat.mul_comm]; exact Nat.mul_le_mul_right _ (by omega)
    omega
   generalize plU num den 0 (qOf F num den) = u at *
   have h6 := Nat.mul_le_mul_right B (show u + 1 ≤ 2 * 2 ^ (F.P - 1) by omega)
   have h7 := Nat.mul_le_mul_right (2 ^ (F.P - 1)) (show kq + 2 ≤ k by omega)
   rw [Nat.add_mul] at h6 h7
   rw [Nat.mul_assoc] at h6
   have h9 := Nat.mul_le_mul_right B hH
   generalize 2 ^ (F.P - 1) = H at *
   refine ⟨fun h => by omega, fun h => ?_⟩
   exfalso
   omega
  ·have hqe : qOf F num den = e - 1 := by omega
   have hc := rU num den 0 (e - 2) (e - 1) (by omega)
   rw [show (e - 1 - (e - 2)).toNat = 1 by omega, Nat.pow_one, ← hA, ← hB] at hc
   rw [hqe] at ub uk cl ⊢
   obtain ⟨u, r, hu, hr1, hr2, hch⟩ := BX (A := A) (D := B * 2) (by omega) false
   rw [hc.1, hc.2, hch]
   rw [hc.1, ← hu] at ub uk
   have h6 := Nat.mul_le_mul_right B (show u + 1 ≤ 2 * 2 ^ (F.P - 1) by omega)
   have hkq : kq + 1 = k := by omega
   subst hkq
   have huB : u * (B * 2) = 2 * (u * B) := by rw [← Nat.mul_assoc]; omega
   rw [huB] at hr1
   rw [Nat.add_mul] at h6 ⊢
   rw [Nat.mul_assoc] at h6
   by_cases hnH2 : n = 2 ^ (F.P - 1)
   ·have hbl1 : bl = 1 := by rw [hbl, if_pos ⟨hnH2, hk0⟩]
    rw [hbl1, ← hnH2] at *
    have g : u + 1 < 2 * n → u * B + B + B ≤ 2 * (n * B) := fun h => by
     have := Nat.mul_le_mul_right B (show u + 2 ≤ 2 * n by omega)
     rw [Nat.add_mul, Nat.mul_assoc] at this
     omega
    have g2 : u + 1 = 2 * n → u * B + B = 2 * (n * B) := fun h => by
     have : (u + 1) * B = 2 * n * B := by rw [h]
     rw [Nat.add_mul, Nat.mul_assoc] at this
     omega
    generalize u * B = uB at *
    generalize n * B = nB at *
    generalize kq * n = kn at *
    split <;> omega
   ·have nB2 := Nat.mul_le_mul_right B (show 2 ^ (F.P - 1) + 1 ≤ n by omega)
    rw [Nat.add_mul] at nB2
    refine ⟨fun h => ?_, fun h => ?_⟩
    ·exfalso
     split at h <;> omega
    ·exfalso
     omega
 ·have hkq : kq = k := by omega
  subst hkq
  have hc := rU num den 0 (e - 2) e (by omega)
  rw [show (e - (e - 2)).toNat = 2 by omega, show (2 : Nat) ^ 2 = 4 from rfl, ← hA, ← hB] at hc
  rw [heq] at ub uk ⊢
  obtain ⟨u, r, hu, hr1, hr2, hch⟩ := BX (A := A) (D := B * 4) (by omega) false
  rw [hc.1, hc.2, hch]
  rw [hc.1, ← hu] at ub uk
  have huB : u * (B * 4) = 4 * (u * B) := by rw [← Nat.mul_assoc]; omega
  rw [huB] at hr1
  have g0 : n + 1 ≤ u → n * B + B ≤ u * B := fun h => by
   have := Nat.mul_le_mul_right B h
   rwa [Nat.add_mul, Nat.one_mul] at this
  have g1 : u + 2 ≤ n → u * B + 2 * B ≤ n * B := fun h => by
   have := Nat.mul_le_mul_right B h
   rwa [Nat.add_mul] at this
  have g2 : u + 1 = n → u * B + B = n * B := fun h => by rw [← h, Nat.add_mul, Nat.one_mul]
  have g3 : u = n → u * B = n * B := fun h => by rw [h]
  have g4 : bl = 1 → n ≤ u := fun h => by
   rw [hbl] at h
   split at h
   ·rename_i hh; have := uk hh.2; omega
   ·cases h
  have g5 : bl = 1 ∨ bl * B = 2 * B := by rcases hb2 with h | h <;> rw [h] <;> simp
  clear hbl
  generalize u * B = uB at *
  generalize n * B = nB at *
  generalize bl * B = bB at *
  generalize kq * 2 ^ (F.P - 1) = kH at *
  rcases Nat.lt_or_ge u n with h1 | h1
  ·split <;> omega
  ·split <;> omega
 ·have huk := uk (by omega)
  have cg := xU 0 false (plU num den 0 (qOf F num den)) (plL num den 0 (qOf F num den))
  have hc := rU num den 0 (e - 2) (qOf F num den) (by omega)
  rw [← hA, ← hB] at hc
  have hle : 2 ^ (F.P - 1) * (B * 8) ≤ A := by
   have h1 : plU num den 0 (qOf F num den) * (B * 2 ^ (qOf F num den - (e - 2)).toNat) ≤ A := by rw [hc.1]; exact Nat.div_mul_le_self _ _
   refine Nat.le_trans (Nat.mul_le_mul huk (Nat.mul_le_mul_left B ?_)) h1
   have : 2 ^ 3 ≤ 2 ^ (qOf F num den - (e - 2)).toNat := Nat.pow_le_pow_right (by decide) (by omega)
   exact this
  have h7 := Nat.mul_le_mul_right (2 ^ (F.P - 1)) (show k + 1 ≤ kq by omega)
  rw [Nat.add_mul] at h7
  have h8 := Nat.mul_le_mul_right B (show n + 1 ≤ 2 * 2 ^ (F.P - 1) by omega)
  rw [Nat.add_mul, Nat.mul_assoc] at h8
  rw [← Nat.mul_assoc] at hle
  refine ⟨fun h => ?_, fun h => ?_⟩
  ·exfalso
   omega
  ·exfalso
   omega
theorem L_ {F : Fm} (hF : F.BZ) {num den : Nat} (hn : num ≠ 0) (hd : 0 < den) (neg : Bool) {k n : Nat} (hn1 : n < 2 ^ F.P) (hn0 : n ≠ 0) (hk : k ≠ 0 → 2 ^ (F.P - 1) ≤ n) (hlt : k * 2 ^ (F.P - 1) + n < vC F) {e : Int} (he : e = F.emin - F.P + 1 + k) {bl : Nat} (hbl : bl = if n = 2 ^ (F.P - 1) ∧ k ≠ 0 then 1 else 2)
  {A B : Nat} (hA : A = upN num 0 (e - 2)) (hB : B = dnN den 0 (e - 2)) :
  (oZ F 0 neg num den 0).1 = k * 2 ^ (F.P - 1) + n + (if neg = true then 2 ^ (F.W - 1) else 0) ↔ (4 * (n * B) < A + bl * B ∧ A < 4 * (n * B) + 2 * B) ∨ (n % 2 = 0 ∧ 4 * (n * B) ≤ A + bl * B ∧ A ≤ 4 * (n * B) + 2 * B) := by
 rw [← JJ hF.ok hn hd hn1 hn0 hk he hbl hA hB]
 have h0 := (O1 hF hn hd 0).1
 rw [if_pos (show (0 : Int) = 0 ∨ (0 : Int) = 1 ∨ (0 : Int) = 3 by decide)] at h0
 have h1 : (oZ F 0 false num den 0).1 = k * 2 ^ (F.P - 1) + n ↔ wz F 0 num den = k * 2 ^ (F.P - 1) + n := by
  rw [h0]
  split <;> omega
 rw [← h1]
 cases neg with
 | false => simp
 | true =>
  have := OZ F 0 num den 0
  rw [show mir 0 = 0 by decide] at this
  rw [this]
  simp only [if_true]
  omega
end Go.Proofs.YtafikkmnkeddpaaGreatDoor
namespace Go.Proofs.YtafikkmnkeddpaaGreatDoor.P
open Go.RowKit Go.Proofs.YtafikkmnkeddpaaGreatDoorW.PrintWords Go.Proofs.YtafikkmnkeddpaaGreatDoorW.PrintLast Go.Proofs.YtafikkmnkeddpaaGreatDoorW.PrintMore
def plB (D : ByteArray) (x : Int) : ByteArray :=
 if x < 0 then (⟨#[48, 46]⟩ : ByteArray) ++ vN (-x - 1).toNat ++ D
 else if (D.size : Int) ≤ x + 1 then D ++ vN (x + 1 - D.size).toNat
 else D.extract 0 (x + 1).toNat ++ ⟨#[46]⟩ ++ D.extract (x + 1).toNat D.size
theorem NG {x : Int} (h0 : 0 ≤ x) (h : x ≤ 1000000) : strings_Repeat.f (⟨#[48]⟩ : ByteArray) x = some (vN x.toNat) := by
 obtain ⟨n, rfl⟩ := Int.eq_ofNat_of_zero_le h0
 rw [Int.toNat_natCast]
 exact UF (by omega)
theorem Ud {x : Int} (h0 : 0 ≤ x) (h : x ≤ 1000000) : Ev (fun k => aV.f k x) (vN x.toNat) := by
 obtain ⟨n, rfl⟩ := Int.eq_ofNat_of_zero_le h0
 rw [Int.toNat_natCast]
 exact QS (by omega)
theorem NH {D : ByteArray} (h : D.size ≤ 1000000) {x : Int} (h1 : -10000 ≤ x) (h2 : x ≤ 10000) : iO.f D x = some (plB D x) := by
 unfold iO.f plB
 by_cases hx : x < 0
 ·rw [if_pos hx, if_pos hx, w64 (x := -x) (by omega) (by omega), w64 (by omega) (by omega), NG (by omega) (by omega)]
  have s1 := qX (-x - 1).toNat
  simp only [Option.bind_some]
  rw [if_pos (by omega), if_pos (by rw [ByteArray.size_append, s1]; show 2 + _ + _ ≤ _; omega)]
 ·rw [if_neg hx, if_neg hx]
  by_cases hd : (D.size : Int) ≤ x + 1
  ·rw [if_pos hd, if_pos (by rw [w64 (by omega) (by omega)]; omega), w64 (x := x - D.size) (by omega) (by omega), w64 (by omega) (by omega), NG (by omega) (by omega)]
   have s1 := qX (x - D.size + 1).toNat
   simp only [Option.bind_some]
   rw [if_pos (by omega), show x - (D.size : Int) + 1 = x + 1 - D.size by omega]
  ·have s1 := nK D (x + 1).toNat
   have s2 : (D.extract 0 (x + 1).toNat).size ≤ D.size := by rw [ByteArray.size_extract]; omega
   rw [if_neg hd, if_neg (by rw [w64 (by omega) (by omega)]; omega), w64 (by omega) (by omega), if_pos (by omega), if_pos (by omega), if_pos (by omega), if_pos (by rw [ByteArray.size_append, s1]; show _ + 1 + _ ≤ _; omega)]
theorem ug {D : ByteArray} (h : D.size ≤ 1000000) {x : Int} (h1 : -10000 ≤ x) (h2 : x ≤ 10000) : Ev (fun k => bZ.f k D x) (plB D x) := by
 unfold bZ.f plB
 by_cases hx : x < 0
 ·rw [if_pos hx]
  refine Ev.pos hx ?_
  rw [w64 (x := -x) (by omega) (by omega), w64 (by omega) (by omega)]
  have s1 := qX (-x - 1).toNat
  exact Ev.bind (Ud (by omega) (by omega)) (Ev.pos (by omega) (Ev.pos (by rw [ByteArray.size_append, s1]; show 2 + _ + _ ≤ _; omega) (Ev.now _)))
 ·rw [if_neg hx]
  refine Ev.neg hx ?_
  rw [w64 (x := x + 1) (by omega) (by omega)]
  by_cases hd : (D.size : Int) ≤ x + 1
  ·rw [if_pos hd]
   refine Ev.pos hd ?_
   rw [w64 (by omega) (by omega)]
   have s1 := qX (x + 1 - D.size).toNat
   exact Ev.bind (Ud (by omega) (by omega)) (Ev.pos (by omega) (Ev.now _))
  ·have s1 := nK D (x + 1).toNat
   have s2 : (D.extract 0 (x + 1).toNat).size ≤ D.size := by rw [ByteArray.size_extract]; omega
   rw [if_neg hd]
   exact Ev.neg hd (Ev.pos (by omega) (Ev.pos (by omega) (Ev.pos (by omega) (Ev.pos (by rw [ByteArray.size_append, s1]; show _ + 1 + _ ≤ _; omega) (Ev.now _)))))
theorem D_ {D : ByteArray} (h : D.size ≤ 1000000) {x : Int} (h1 : -10000 ≤ x) (h2 : x ≤ 10000) : (plB D x).size ≤ 2000000 := by
 unfold plB
 split
 ·have s1 := qX (-x - 1).toNat
  rw [ByteArray.size_append, ByteArray.size_append, s1]
  show 2 + _ + _ ≤ _
  omega
 ·split
  ·have s1 := qX (x + 1 - D.size).toNat
   rw [ByteArray.size_append, s1]
   omega
  ·have s1 := nK D (x + 1).toNat
   have s2 : (D.extract 0 (x + 1).toNat).size ≤ D.size := by rw [ByteArray.size_extract]; omega
   rw [ByteArray.size_append, ByteArray.size_append, s1]
   show _ + 1 + _ ≤ _
   omega
theorem AL : ∀ r : List UInt8, (∃ c ∈ r, c ≠ 48) → ∃ (X : List UInt8) (c : UInt8) (z : Nat), r.reverse = X ++ [c] ++ List.replicate z 48 ∧ c ≠ 48
 | [], h => by obtain ⟨c, hc, _⟩ := h; cases hc
 | a :: t, h => by
  by_cases ha : a = 48
  ·obtain ⟨c, hc, hn⟩ := h
   rcases List.mem_cons.1 hc with h1 | h1
   ·exact absurd (h1.trans ha) hn
   ·obtain ⟨X, d, z, e, hd⟩ := AL t ⟨c, h1, hn⟩
    refine ⟨X, d, z + 1, ?_, hd⟩
    rw [List.reverse_cons, e, ha, List.replicate_succ', List.append_assoc]
  ·exact ⟨t.reverse, a, 0, by simp, ha⟩
theorem wL (l : List UInt8) (h : ∃ c ∈ l, c ≠ 48) : ∃ (X : List UInt8) (c : UInt8) (z : Nat), l = X ++ [c] ++ List.replicate z 48 ∧ c ≠ 48 := by
 obtain ⟨c, hc, hn⟩ := h
 have := AL l.reverse ⟨c, List.mem_reverse.2 hc, hn⟩
 rwa [List.reverse_reverse] at this
theorem xX (X : List UInt8) (c : UInt8) (z : Nat) (h : c ≠ 48) : Lib.trimRightB (X ++ [c] ++ List.replicate z 48) 48 = X ++ [c] := by
 unfold Lib.trimRightB
 rw [List.reverse_append, List.reverse_replicate]
 have : ∀ (z : Nat) (m : List UInt8), List.dropWhile (· == 48) (List.replicate z 48 ++ m) = List.dropWhile (· == 48) m := by
  intro z m
  induction z with
  | zero => rfl
  | succ z ih => rw [List.replicate_succ, List.cons_append, List.dropWhile_cons_of_pos (by rfl), ih]
 rw [this, List.reverse_append]
 show (List.dropWhile _ (c :: X.reverse)).reverse = _
 rw [List.dropWhile_cons_of_neg (by simpa using h)]
 simp
theorem Jc : ∀ (k n : Nat), n < 10 ^ (k + 1) → Lib.decDigits n = dgs n
 | k, n, h => by
  rw [Lib.decDigits, dgs]
  by_cases h9 : n ≤ 9
  ·rw [dif_pos (by omega), if_pos h9]
  ·rw [dif_neg (by omega), if_neg h9]
   match k, h with
   | 0, h => omega
   | k + 1, h => rw [Jc k (n / 10) (by rw [Nat.pow_succ] at h; omega)]
theorem P8 (n : Nat) : Lib.decDigits n = dgs n := Jc n n (Nat.lt_of_lt_of_le (Nat.lt_pow_self (by decide)) (Nat.pow_le_pow_right (by decide) (by omega)))
theorem Si (n : Nat) : iH (Lib.decDigits n) = n := by rw [P8]; exact PZ n
theorem NI : ∀ l : List UInt8, (∀ c ∈ l, c = 48) → iH l = 0 := by
 intro l h
 induction l with
 | nil => rfl
 | cons a l ih =>
  rw [Ns, ih (fun c hc => h c (List.mem_cons_of_mem _ hc)), h a (List.mem_cons_self ..)]
  simp
theorem AP {n : Nat} (h : n ≠ 0) : ∃ c ∈ Lib.decDigits n, c ≠ 48 := Classical.byContradiction fun hc => h (by
 rw [← Si n]
 exact NI _ fun c hm => Classical.byContradiction fun hne => hc ⟨c, hm, hne⟩)
end Go.Proofs.YtafikkmnkeddpaaGreatDoor.P
namespace Go.Proofs.YtafikkmnkeddpaaGreatDoor.P
open Go.RowKit Go.Proofs.YtafikkmnkeddpaaGreatDoorW.PrintWords Go.Proofs.YtafikkmnkeddpaaGreatDoorW.PrintLast Go.Proofs.YtafikkmnkeddpaaGreatDoorW.PrintMore
theorem Ny {a : Int} {F : Fm} (h : l9 a = some F) : F.BZ := by
 refine rP (P := fun _ F => F.BZ) ?_ ?_ ?_ ?_ h
 all_goals exact ⟨⟨by decide, by decide, by decide, by decide, by decide⟩, by decide⟩
end Go.Proofs.YtafikkmnkeddpaaGreatDoor.P
namespace Go.Proofs.YtafikkmnkeddpaaGreatDoor.P
open Go.RowKit Go.Proofs.YtafikkmnkeddpaaGreatDoorW.PrintWords Go.Proofs.YtafikkmnkeddpaaGreatDoorW.PrintLast Go.Proofs.YtafikkmnkeddpaaGreatDoorW.PrintMore
def Fz (F : Fm) (a u : Nat) (x : Int) : Bool := decide (u ≠ 0 ∧ (QL F 0 (ngN F a) u x).1 = a)
theorem Jd {f : Int} {F : Fm} (h : l9 f = some F) {a : Nat} (ha : a < 2 ^ F.W) (hk : kdN F a = 3) : a = EZ F a * 2 ^ (F.P - 1) + iE F a + (if ngN F a = true then 2 ^ (F.W - 1) else 0) := by
 have b := mW h
 obtain ⟨s1, s2, s3, s4, s5⟩ := rJ h a hk
 rw [s4]
 have hd := Nat.div_add_mod a (2 ^ (F.W - 1))
 have hlt : a / 2 ^ (F.W - 1) < 2 := by
  rw [Nat.div_lt_iff_lt_mul (Nat.two_pow_pos _), ← Nat.pow_succ']
  rwa [show (F.W - 1).succ = F.W by omega]
 unfold ngN
 generalize a / 2 ^ (F.W - 1) = z at *
 have hz : z = 0 ∨ z = 1 := by omega
 rcases hz with rfl | rfl
 ·simp at hd ⊢; omega
 ·simp at hd ⊢; omega
theorem FB {f : Int} {F : Fm} (h : l9 f = some F) {a : Nat} (ha : a < 2 ^ F.W) (hk : kdN F a = 3) {u : Nat} (hu : (toW u).length ≤ 200) {x : Int} (h1 : -2000 ≤ x) (h2 : x ≤ 2000) : Ev (fun k => eG.f k f (a : Int) (wI u) x) (Fz F a u x) := by
 have hF := wH h
 have b := mW h
 unfold eG.f Fz
 rw [He h ha]
 refine Ev.bs ?_
 rw [show (((((if ngN F a then 1 else 0 : Nat)) : Int) == 1)) = ngN F a by cases ngN F a <;> rfl]
 have hR : ∀ num den : Nat, den ≠ 0 → (toW num).length ≤ 1000 → (toW den).length ≤ 1000 → Ev (fun k => (aI.f k f 0 (ngN F a) (wI num) (wI den) 0).bind fun bt => some (bt.1 == (a : Int))) (decide (num ≠ 0 ∧ (oZ F 0 (ngN F a) num den 0).1 = a)) := fun num den hd hn hdl => by
  by_cases h0 : num = 0
  ·subst h0
   have hz : Ev (fun k => aI.f k f 0 (ngN F a) (wI 0) (wI den) 0) ((((if ngN F a = true then 2 ^ (F.W - 1) else 0) : Nat) : Int), 0) := by
    unfold aI.f
    have ht := oL (iT 0) (by rw [jB]; decide)
    rw [dV, ← EJ] at ht
    rw [ht]
    refine Ev.bs (Ev.pos (by have := oN 0; omega) ?_)
    rw [wG]
    refine Ev.bs ?_
    rw [PO hF]
    exact Ev.bs (Ev.now _)
   refine Ev.bind hz ?_
   have hne : ¬ ((((if ngN F a = true then 2 ^ (F.W - 1) else 0) : Nat) : Int) = (a : Int)) := fun e => by
    have := Jd h ha hk
    have := (rJ h a hk).1
    omega
   rw [show (((((if ngN F a = true then 2 ^ (F.W - 1) else 0) : Nat) : Int), (0 : Int)).1 == (a : Int)) = decide ((0 : Nat) ≠ 0 ∧ (oZ F 0 (ngN F a) 0 den 0).1 = a) by simp only [ne_eq, not_true_eq_false, false_and, decide_false]; exact beq_eq_false_iff_ne.2 hne]
   exact Ev.now _
  ·refine Ev.bind (Nk hF 0 (ngN F a) h0 hd hn hdl (E := 0) (by decide) (by decide)) ?_
   rw [show ((((oZ F 0 (ngN F a) num den 0).1 : Int), ((oZ F 0 (ngN F a) num den 0).2 : Int)).1 == (a : Int)) = decide (num ≠ 0 ∧ (oZ F 0 (ngN F a) num den 0).1 = a) from Nl _ _ _ (propext ⟨fun e => ⟨h0, Int.ofNat.inj e⟩, fun e => congrArg Int.ofNat e.2⟩)]
   exact Ev.now _
 unfold QL
 by_cases hc : x ≥ 0
 ·refine Ev.pos hc ?_
  obtain ⟨m, rfl⟩ := Int.eq_ofNat_of_zero_le hc
  rw [Int.toNat_natCast, show (-(m : Int)).toNat = 0 by omega, Nat.pow_zero]
  have h10 := xK m
  have hml := oU u (10 ^ m)
  refine Ev.bind (DX (n := m) (by omega) (by unfold iL; omega)) (Ev.bind (tZ (by omega) (by omega)) ?_)
  have := hR (u * 10 ^ m) 1 (by decide) (by omega) (by rw [n_]; decide)
  rw [TY] at this
  have e : (u * 10 ^ m ≠ 0) = (u ≠ 0) := by
   have := mg m
   rw [Ne, Nat.mul_eq_zero]
   exact propext ⟨fun z y => z (.inl y), fun z y => y.elim z (fun w => by omega)⟩
  rw [show decide (u * 10 ^ m ≠ 0 ∧ (oZ F 0 (ngN F a) (u * 10 ^ m) 1 0).1 = a) = decide (u ≠ 0 ∧ (oZ F 0 (ngN F a) (u * 10 ^ m) 1 0).1 = a) by simp only [e]] at this
  exact this
 ·refine Ev.neg hc ?_
  obtain ⟨m, rfl⟩ : ∃ m : Nat, x = -(m : Int) := ⟨(-x).toNat, by omega⟩
  rw [w64 (by omega) (by omega), Int.neg_neg, Int.toNat_natCast, show (-(m : Int)).toNat = 0 by omega, Nat.pow_zero, Nat.mul_one]
  have h10 := xK m
  refine Ev.bind (DX (n := m) (by omega) (by unfold iL; omega)) ?_
  exact hR u (10 ^ m) (by have := mg m; omega) (by omega) (by omega)
theorem P9 {f : Int} {F : Fm} (h : l9 f = some F) {a : Nat} (ha : a < 2 ^ F.W) (hk : kdN F a = 3) {u : Nat} (hu : u ≠ 0) (t : Int) :
  Fz F a u (-t) = uS (decide (iE F a % 2 = 0)) (tmN (4 * iE F a) (g_ F a - 2) t - tmN 1 (g_ F a - 2) t * blN F a) (tmN (4 * iE F a) (g_ F a - 2) t + tmN 1 (g_ F a - 2) t * 2) (u * tmD (g_ F a - 2) t) := by
 have b := mW h
 obtain ⟨s1, s2, s3, s4, s5⟩ := rJ h a hk
 have hT := Ny h
 have hnum : u * 10 ^ (-t).toNat ≠ 0 := Nat.mul_ne_zero hu (by have := mg (-t).toNat; omega)
 have hbl : blN F a = if iE F a = 2 ^ (F.P - 1) ∧ EZ F a ≠ 0 then 1 else 2 := by
  have hfr := IZ F a
  have hp := Nat.two_pow_pos (F.P - 1)
  unfold blN iE EZ
  by_cases h0 : exN F a = 0
  ·rw [if_pos h0, if_neg (by omega), if_neg (by omega)]
  ·rw [if_neg h0]
   by_cases hc : frN F a = 0 ∧ 1 < exN F a
   ·rw [if_pos hc, if_pos ⟨by omega, by omega⟩]
   ·rw [if_neg hc, if_neg (fun e => hc ⟨by omega, by omega⟩)]
 have key := L_ hT hnum (mg (-(-t)).toNat) (ngN F a) s2 s1 s3 s5 (Rn F a) hbl (A := u * tmD (g_ F a - 2) t) (B := tmN 1 (g_ F a - 2) t) (by unfold upN tmD; rw [show (0 - (g_ F a - 2)).toNat = (-(g_ F a - 2)).toNat by omega, Nat.mul_assoc]) (by unfold dnN tmN; rw [show (g_ F a - 2 - 0).toNat = (g_ F a - 2).toNat by omega, Int.neg_neg, Nat.one_mul])
 rw [← Jd h ha hk] at key
 have hb12 : blN F a = 1 ∨ blN F a = 2 := by rw [hbl]; split <;> simp
 unfold Fz QL uS
 rw [D8 (4 * iE F a)]
 rw [show (-t).toNat = (-t).toNat from rfl] at key
 have e1 : 4 * iE F a * tmN 1 (g_ F a - 2) t = 4 * (iE F a * tmN 1 (g_ F a - 2) t) := Nat.mul_assoc _ _ _
 have e2 : tmN 1 (g_ F a - 2) t * blN F a = blN F a * tmN 1 (g_ F a - 2) t := Nat.mul_comm _ _
 have e3 : tmN 1 (g_ F a - 2) t ≤ iE F a * tmN 1 (g_ F a - 2) t := Nat.le_mul_of_pos_left _ (by omega)
 have e4 : blN F a * tmN 1 (g_ F a - 2) t = tmN 1 (g_ F a - 2) t ∨ blN F a * tmN 1 (g_ F a - 2) t = 2 * tmN 1 (g_ F a - 2) t := by rcases hb12 with e | e <;> rw [e] <;> simp
 rw [e1, e2]
 rw [Bool.eq_iff_iff]
 simp only [decide_eq_true_eq, Bool.or_eq_true, Bool.and_eq_true]
 generalize blN F a * tmN 1 (g_ F a - 2) t = bB at *
 generalize iE F a * tmN 1 (g_ F a - 2) t = nB at *
 generalize tmN 1 (g_ F a - 2) t = B at *
 generalize u * tmD (g_ F a - 2) t = A at *
 constructor
 ·rintro ⟨_, e⟩
  rcases key.1 e with k1 | k1
  ·exact .inl ⟨by omega, by omega⟩
  ·exact .inr ⟨⟨k1.1, by omega⟩, by omega⟩
 ·intro e
  refine ⟨hu, key.2 ?_⟩
  rcases e with e | e
  ·exact .inl ⟨by omega, by omega⟩
  ·exact .inr ⟨e.1.1, by omega, by omega⟩
theorem wM (n : Nat) (e t : Int) : ∃ s, 0 < s ∧ tmN (4 * n) (e - 2) t = tmN n e t * s ∧ tmD (e - 2) t = tmD e t * s := by
 unfold tmN tmD
 by_cases h2 : 2 ≤ e
 ·refine ⟨1, by decide, ?_, ?_⟩
  ·obtain ⟨m, hm⟩ : ∃ m : Nat, e = (m : Int) + 2 := ⟨(e - 2).toNat, by omega⟩
   subst hm
   rw [show ((m : Int) + 2 - 2).toNat = m by omega, show ((m : Int) + 2).toNat = m + 2 by omega, Nat.pow_add, Nat.mul_one, show (2 : Nat) ^ 2 = 4 from rfl, Nat.mul_comm 4 n, Nat.mul_assoc, Nat.mul_assoc, Nat.mul_assoc]
   congr 1
   rw [Nat.mul_comm 4, Nat.mul_assoc]
  ·rw [show (-(e - 2)).toNat = 0 by omega, show (-e).toNat = 0 by omega]; simp
 ·by_cases h1 : e = 1
  ·subst h1
   refine ⟨2, by decide, ?_, ?_⟩
   ·rw [show ((1 : Int) - 2).toNat = 0 from rfl, show (1 : Int).toNat = 1 from rfl, Nat.pow_zero, Nat.pow_one]
    generalize 10 ^ t.toNat = z
    rw [Nat.mul_one, Nat.mul_assoc 4, Nat.mul_assoc _ 2 2]
    omega
   ·rw [show (-((1 : Int) - 2)).toNat = 1 from rfl, show (-(1 : Int)).toNat = 0 from rfl, Nat.pow_zero, Nat.pow_one, Nat.mul_one]
  ·refine ⟨4, by decide, ?_, ?_⟩
   ·rw [show (e - 2).toNat = 0 by omega, show e.toNat = 0 by omega, Nat.pow_zero, Nat.mul_one, Nat.mul_one, Nat.mul_assoc, Nat.mul_comm]
   ·rw [show (-(e - 2)).toNat = (-e).toNat + 2 by omega, Nat.pow_add, ← Nat.mul_assoc]
theorem FC (k : Nat) (q t : Int) (j : Nat) : tmN k q (t + j) * tmD q t = 10 ^ j * tmN k q t * tmD q (t + j) := by
 unfold tmN tmD
 have e : 10 ^ (t + j).toNat * 10 ^ (-t).toNat = 10 ^ j * 10 ^ t.toNat * 10 ^ (-(t + j)).toNat := by
  rw [← Nat.pow_add, ← Nat.pow_add, ← Nat.pow_add]
  congr 1
  omega
 generalize 10 ^ (t + (j : Int)).toNat = p1 at *
 generalize 10 ^ (-t).toNat = p2 at *
 generalize 10 ^ j = p3 at *
 generalize 10 ^ t.toNat = p4 at *
 generalize 10 ^ (-(t + (j : Int))).toNat = p5 at *
 generalize 2 ^ q.toNat = p6
 generalize 2 ^ (-q).toNat = p7
 calc k * p1 * p6 * (p2 * p7) = k * p6 * p7 * (p1 * p2) := by ac_rfl
  _ = k * p6 * p7 * (p3 * p4 * p5) := by rw [e]
  _ = p3 * (k * p4 * p6) * (p5 * p7) := by ac_rfl
theorem P_ (n bl : Nat) (e E : Int) (hn : n < 2 ^ 53) (hn0 : n ≠ 0) (hbl : bl = 1 ∨ bl = 2) (hE : Eo n e E) : qp (tmN (4 * n) (e - 2) (17 - E)) (tmD (e - 2) (17 - E)) (tmN 1 (e - 2) (17 - E)) bl (decide (n % 2 = 0)) ≠ none := by
 have hge := hE.1
 obtain ⟨s, hs, q1, q2⟩ := wM n e (-E)
 obtain ⟨s', hs', r1, r2⟩ := wM n e (17 - E)
 have hg2 : gN n e (17 - E) := S9 hge (by omega)
 unfold gN at hge hg2
 have c1 : tmD (e - 2) (-E) ≤ tmN (4 * n) (e - 2) (-E) := by rw [q1, q2]; exact Nat.mul_le_mul_right _ hge
 have c2 : tmD (e - 2) (17 - E) ≤ tmN (4 * n) (e - 2) (17 - E) := by rw [r1, r2]; exact Nat.mul_le_mul_right _ hg2
 have hD : 0 < tmD (e - 2) (17 - E) := Nat.mul_pos (Nat.pow_pos (by decide)) (Nat.two_pow_pos _)
 have hD0 : 0 < tmD (e - 2) (-E) := Nat.mul_pos (Nat.pow_pos (by decide)) (Nat.two_pow_pos _)
 have sh := FC 1 (e - 2) (-E) 17
 rw [show -E + ((17 : Nat) : Int) = 17 - E by omega] at sh
 have c3 : tmD (e - 2) (17 - E) ≤ tmN 1 (e - 2) (17 - E) := by
  refine Nat.le_of_mul_le_mul_right (c := tmD (e - 2) (-E)) ?_ hD0
  rw [sh]
  rw [D8 (4 * n)] at c1
  have h4 : 4 * n ≤ 10 ^ 17 := by have : (4 : Nat) * 2 ^ 53 ≤ 10 ^ 17 := (by decide); omega
  have h5 := Nat.mul_le_mul_right (tmN 1 (e - 2) (-E)) h4
  rw [Nat.mul_comm]
  exact Nat.mul_le_mul_right _ (Nat.le_trans c1 h5)
 have hdiv : 0 < tmN (4 * n) (e - 2) (17 - E) / tmD (e - 2) (17 - E) := (Nat.le_div_iff_mul_le hD).2 (by omega)
 have hm := Nat.div_add_mod (tmN (4 * n) (e - 2) (17 - E)) (tmD (e - 2) (17 - E))
 have hml := Nat.mod_lt (tmN (4 * n) (e - 2) (17 - E)) hD
 rw [Nat.mul_comm] at hm
 have hub : tmN 1 (e - 2) (17 - E) ≤ tmN 1 (e - 2) (17 - E) * bl := Nat.le_mul_of_pos_right _ (by omega)
 have hw : uS (decide (n % 2 = 0)) (tmN (4 * n) (e - 2) (17 - E) - tmN 1 (e - 2) (17 - E) * bl) (tmN (4 * n) (e - 2) (17 - E) + tmN 1 (e - 2) (17 - E) * 2) (tmN (4 * n) (e - 2) (17 - E) / tmD (e - 2) (17 - E) * tmD (e - 2) (17 - E)) = true := by
  unfold uS
  rw [decide_eq_true (show tmN (4 * n) (e - 2) (17 - E) - tmN 1 (e - 2) (17 - E) * bl < tmN (4 * n) (e - 2) (17 - E) / tmD (e - 2) (17 - E) * tmD (e - 2) (17 - E) by omega), decide_eq_true (show tmN (4 * n) (e - 2) (17 - E) / tmD (e - 2) (17 - E) * tmD (e - 2) (17 - E) < tmN (4 * n) (e - 2) (17 - E) + tmN 1 (e - 2) (17 - E) * 2 by omega)]
  rfl
 unfold qp
 rw [hw, decide_eq_true hdiv]
 simp
theorem FD (n bl : Nat) (e E : Int) : ∀ (f cn m : Nat), cn ≤ m → m < cn + f → qp (tmN (4 * n) (e - 2) ((m : Int) - 1 - E)) (tmD (e - 2) ((m : Int) - 1 - E)) (tmN 1 (e - 2) ((m : Int) - 1 - E)) bl (decide (n % 2 = 0)) ≠ none → ∃ c cnt, shortS n e bl E f cn = some (c, cnt) ∧ cn ≤ cnt ∧ cnt ≤ m
 | 0, cn, m, h1, h2, _ => by omega
 | f + 1, cn, m, h1, h2, h3 => by
  rw [qG n bl e E f cn _ rfl]
  cases hst : qp (tmN (4 * n) (e - 2) ((cn : Int) - 1 - E)) (tmD (e - 2) ((cn : Int) - 1 - E)) (tmN 1 (e - 2) ((cn : Int) - 1 - E)) bl (decide (n % 2 = 0)) with
  | some r => exact ⟨r, cn, rfl, by omega, by omega⟩
  | none =>
   have hne : cn ≠ m := fun e => by subst e; exact h3 hst
   obtain ⟨c, cnt, a1, a2, a3⟩ := FD n bl e E f (cn + 1) m (by omega) (by omega) h3
   exact ⟨c, cnt, a1, by omega, a3⟩
end Go.Proofs.YtafikkmnkeddpaaGreatDoor.P
namespace Go.Proofs.YtafikkmnkeddpaaGreatDoor.P
open Go.RowKit Go.Proofs.YtafikkmnkeddpaaGreatDoorW.PrintWords Go.Proofs.YtafikkmnkeddpaaGreatDoorW.PrintLast Go.Proofs.YtafikkmnkeddpaaGreatDoorW.PrintMore
theorem uh (s : ByteArray) (n : Nat) : bl (s.extract 0 n) = (bl s).take n := by
 show (s.extract 0 n).data.toList = _
 rw [ByteArray.data_extract, Array.toList_extract]
 simp [List.extract]
theorem Je {n : Nat} {e E : Int} (hE : Eo n e E) (cn : Nat) : tmN n e ((cn : Int) - 1 - E) / tmD e ((cn : Int) - 1 - E) < 10 ^ cn := by
 have h2 := hE.2
 unfold gN at h2
 have sh := FC n e (-E - 1) cn
 rw [show -E - 1 + (cn : Int) = (cn : Int) - 1 - E by omega] at sh
 have hD : 0 < tmD e ((cn : Int) - 1 - E) := Nat.mul_pos (Nat.pow_pos (by decide)) (Nat.two_pow_pos _)
 have hD' : 0 < tmD e (-E - 1) := Nat.mul_pos (Nat.pow_pos (by decide)) (Nat.two_pow_pos _)
 rw [Nat.div_lt_iff_lt_mul hD]
 refine Nat.lt_of_mul_lt_mul_right (a := tmD e (-E - 1)) ?_
 rw [sh]
 have h3 : 10 ^ cn * tmN n e (-E - 1) < 10 ^ cn * tmD e (-E - 1) := Nat.mul_lt_mul_of_pos_left (by omega) (mg cn)
 have h4 := Nat.mul_lt_mul_of_pos_right h3 hD
 rw [Nat.mul_assoc (10 ^ cn) (tmD e (-E - 1)), Nat.mul_comm (tmD e (-E - 1)), ← Nat.mul_assoc] at h4
 exact h4
theorem FH {f : Int} {F : Fm} (h : l9 f = some F) {a : Nat} (ha : a < 2 ^ F.W) (hk : kdN F a = 3) {E : Int} (hE : Eo (iE F a) (g_ F a) E) (hE1 : -400 ≤ E) (hE2 : E ≤ 400) {c cnt : Nat} {r : ByteArray × Int}
  (hr : Ev (fun k => aj.j17 k f (a : Int) E (cnt : Int) (wI c)) r) : ∀ (g cn : Nat), 1 ≤ cn → cn + g ≤ 60 → shortS (iE F a) (g_ F a) (blN F a) E g cn = some (c, cnt) →
  Ev (fun k => aj.l11 k f (a : Int) (wI (iE F a * 2 ^ (g_ F a).toNat)) (wI (2 ^ (-(g_ F a)).toNat)) E (cn : Int)) r
 | 0, cn, _, _, hS => by simp [shortS] at hS
 | g + 1, cn, h1, h2, hS => by
  have b := mW h
  obtain ⟨s1, s2, s3, s4, s5⟩ := rJ h a hk
  have hex := Aj F a
  have he : -1074 ≤ g_ F a ∧ g_ F a ≤ 973 := by unfold g_; omega
  have hp : 2 ^ F.P ≤ 2 ^ 53 := Nat.pow_le_pow_right (by decide) (by omega)
  rw [qG _ _ _ _ _ _ _ rfl] at hS
  have hw1 : wrap64 ((wrap64 ((cn : Int) - 1)) - E) = (cn : Int) - 1 - E := by rw [w64 (x := (cn : Int) - 1) (by omega) (by omega), w64 (by omega) (by omega)]
  have hw2 : wrap64 ((wrap64 (E - (cn : Int))) + 1) = -((cn : Int) - 1 - E) := by rw [w64 (x := E - (cn : Int)) (by omega) (by omega), w64 (by omega) (by omega)]; omega
  have hplaces := E5 (t := (cn : Int) - 1 - E) s1 (Nat.lt_of_lt_of_le s2 hp) he.1 he.2 (by omega) (by omega)
  have hqb := Je hE cn
  obtain ⟨s, hs, q1, q2⟩ := wM (iE F a) (g_ F a) ((cn : Int) - 1 - E)
  have hdiv : tmN (4 * iE F a) (g_ F a - 2) ((cn : Int) - 1 - E) / tmD (g_ F a - 2) ((cn : Int) - 1 - E) = tmN (iE F a) (g_ F a) ((cn : Int) - 1 - E) / tmD (g_ F a) ((cn : Int) - 1 - E) := by rw [q1, q2, yZ _ _ hs]
  have hlof : lOf (tmN (4 * iE F a) (g_ F a - 2) ((cn : Int) - 1 - E)) (tmD (g_ F a - 2) ((cn : Int) - 1 - E)) = lOf (tmN (iE F a) (g_ F a) ((cn : Int) - 1 - E)) (tmD (g_ F a) ((cn : Int) - 1 - E)) := by rw [q1, q2, D7 _ _ hs]
  have l3 := QA (r := tmN (4 * iE F a) (g_ F a - 2) ((cn : Int) - 1 - E) % tmD (g_ F a - 2) ((cn : Int) - 1 - E)) (d := tmD (g_ F a - 2) ((cn : Int) - 1 - E))
  have l2 := QB (r := tmN (4 * iE F a) (g_ F a - 2) ((cn : Int) - 1 - E) % tmD (g_ F a - 2) ((cn : Int) - 1 - E)) (d := tmD (g_ F a - 2) ((cn : Int) - 1 - E))
  unfold lOf at hlof
  rw [hlof] at l3 l2
  have hi1 := fun u (hu : u ≠ 0) => P9 h ha hk (u := u) hu ((cn : Int) - 1 - E)
  unfold qp at hS
  rw [hdiv] at hS
  have hcn10 : 10 ^ cn ≤ 10 ^ 60 := Nat.pow_le_pow_right (by decide) (by omega)
  obtain ⟨C, hC⟩ : ∃ C : Nat, C = 60 := ⟨_, rfl⟩
  have hqC : tmN (iE F a) (g_ F a) ((cn : Int) - 1 - E) / tmD (g_ F a) ((cn : Int) - 1 - E) + 1 < 10 ^ (C + 1) := by
   have h5 : 10 ^ cn ≤ 10 ^ C := Nat.pow_le_pow_right (by decide) (by omega)
   have h6 : 10 ^ (C + 1) = 10 * 10 ^ C := Nat.pow_succ'
   have := mg C
   omega
  clear hcn10
  have hll : qm (tmN (iE F a) (g_ F a) ((cn : Int) - 1 - E) % tmD (g_ F a) ((cn : Int) - 1 - E)) (tmD (g_ F a) ((cn : Int) - 1 - E)) ≤ 3 := Fp _ _
  refine Ev.step (fun k => by rw [aj.l11, hw1, hw2]) ?_
  refine Ev.bind hplaces ?_
  show Ev _ _
  unfold lOf
  generalize qm (tmN (iE F a) (g_ F a) ((cn : Int) - 1 - E) % tmD (g_ F a) ((cn : Int) - 1 - E)) (tmD (g_ F a) ((cn : Int) - 1 - E)) = l at *
  generalize tmN (iE F a) (g_ F a) ((cn : Int) - 1 - E) / tmD (g_ F a) ((cn : Int) - 1 - E) = q at *
  have fq := CG hqC
  have fq0 : (toW q).length ≤ (C + 1) / 19 + 1 := Nat.le_trans (DY (by omega)) fq
  have hadd := Hl (a := q) (b := 1) (by omega) (by rw [n_]; decide)
  rw [TY] at hadd
  refine Ev.bind hadd ?_
  refine Ev.bind (FB h ha hk (u := q) (by omega) (by omega) (by omega)) ?_
  refine Ev.bind (FB h ha hk (u := q + 1) (by omega) (by omega) (by omega)) ?_
  have hone : (decide (0 < q) && uS (decide (iE F a % 2 = 0)) (tmN (4 * iE F a) (g_ F a - 2) ((cn : Int) - 1 - E) - tmN 1 (g_ F a - 2) ((cn : Int) - 1 - E) * blN F a) (tmN (4 * iE F a) (g_ F a - 2) ((cn : Int) - 1 - E) + tmN 1 (g_ F a - 2) ((cn : Int) - 1 - E) * 2) (q * tmD (g_ F a - 2) ((cn : Int) - 1 - E))) = Fz F a q (-((cn : Int) - 1 - E)) := by
   by_cases hq0 : q = 0
   ·rw [hq0]; unfold Fz; simp
   ·rw [hi1 q hq0, decide_eq_true (by omega)]; rfl
  rw [hone, ← hi1 (q + 1) (by omega)] at hS
  generalize Fz F a q (-((cn : Int) - 1 - E)) = low at *
  generalize Fz F a (q + 1) (-((cn : Int) - 1 - E)) = high at *
  have hj : ∀ u : Nat, u = (if low = false then q + 1 else if high = true ∧ 0 < tmN (4 * iE F a) (g_ F a - 2) ((cn : Int) - 1 - E) % tmD (g_ F a - 2) ((cn : Int) - 1 - E) ∧ (tmD (g_ F a - 2) ((cn : Int) - 1 - E) < 2 * (tmN (4 * iE F a) (g_ F a - 2) ((cn : Int) - 1 - E) % tmD (g_ F a - 2) ((cn : Int) - 1 - E)) ∨ (2 * (tmN (4 * iE F a) (g_ F a - 2) ((cn : Int) - 1 - E) % tmD (g_ F a - 2) ((cn : Int) - 1 - E)) = tmD (g_ F a - 2) ((cn : Int) - 1 - E) ∧ q % 2 = 1)) then q + 1 else q) → c = u → cnt = cn → (low = true → q ≠ 0) →
    Ev (fun k => aj.j15 k f (a : Int) E (cn : Int) (wI q) (l : Int) (wI (q + 1)) low high) r := fun u hu hcu hcc hlq => by
   subst hcc
   refine Ev.step (fun k => by rw [aj.j15]) ?_
   cases low with
   | false =>
    rw [if_pos rfl] at hu
    rw [hcu, hu] at hr
    exact Ev.neg (by decide) hr
   | true =>
    rw [if_neg (by decide)] at hu
    have hq := hlq rfl
    have hln := oN q
    refine Ev.pos (by decide) ?_
    cases high with
    | false =>
     rw [if_neg (by simp)] at hu
     rw [hcu, hu] at hr
     exact Ev.neg (by decide) hr
    | true =>
     refine Ev.pos rfl ?_
     by_cases hl3 : l = 3
     ·rw [if_pos ⟨rfl, by have := l3.1 hl3; omega, .inl (l3.1 hl3)⟩] at hu
      rw [hcu, hu] at hr
      exact Ev.neg (by rw [hl3]; decide) hr
     ·refine Ev.pos (by rw [beq_eq_false_iff_ne]; omega) ?_
      by_cases hl2 : l = 2
      ·refine Ev.pos (by rw [hl2]; rfl) (Ev.pos (by decide) (Ev.pos (by omega) (Ev.neg (by decide) ?_)))
       rw [QT hq]
       by_cases hodd : q % 2 = 1
       ·rw [if_pos ⟨rfl, by have := l2.1 hl2; omega, .inr ⟨(l2.1 hl2).2, hodd⟩⟩] at hu
        rw [hcu, hu] at hr
        exact Ev.pos (decide_eq_true hodd) hr
       ·rw [if_neg (fun e => by rcases e.2.2 with e | e; exact hl3 (l3.2 e); exact hodd e.2)] at hu
        rw [hcu, hu] at hr
        exact Ev.neg (by simpa using hodd) hr
      ·rw [if_neg (fun e => by rcases e.2.2 with e' | e'; exact hl3 (l3.2 e'); exact hl2 (l2.2 ⟨by omega, e'.1⟩))] at hu
       rw [hcu, hu] at hr
       exact Ev.neg (by rw [beq_iff_eq]; omega) hr
  have hlq : low = true → q ≠ 0 := fun hl hq => by
   rw [hq] at hone
   rw [hl] at hone
   simp at hone
  by_cases hboth : low = false ∧ high = false
  ·rw [if_pos hboth] at hS
   obtain ⟨hb1, hb2⟩ := hboth
   subst hb1
   subst hb2
   refine Ev.pos (by decide) (Ev.pos (by decide) ?_)
   rw [w64 (by omega) (by omega)]
   exact FH h ha hk hE hE1 hE2 hr g (cn + 1) (by omega) (by omega) hS
  ·rw [if_neg hboth] at hS
   have hS2 := Option.some.inj hS
   have hcu := (congrArg Prod.fst hS2).symm
   have hcc := (congrArg Prod.snd hS2).symm
   have := hj _ rfl hcu hcc hlq
   cases low with
   | true => exact Ev.neg (by decide) this
   | false =>
    refine Ev.pos (by decide) ?_
    cases high with
    | true => exact Ev.neg (by decide) this
    | false => exact absurd ⟨rfl, rfl⟩ hboth
theorem AQ {f : Int} {F : Fm} (h : l9 f = some F) {a : Nat} (ha : a < 2 ^ F.W) (hk : kdN F a = 3) {E : Int} (hE : Eo (iE F a) (g_ F a) E) {c cnt : Nat} : ∀ g cn, cn + g ≤ 60 → shortS (iE F a) (g_ F a) (blN F a) E g cn = some (c, cnt) → c ≠ 0 ∧ c < 10 ^ 61
 | 0, cn, _, hS => by simp [shortS] at hS
 | g + 1, cn, hg, hS => by
  rw [qG _ _ _ _ _ _ _ rfl] at hS
  have hqb := Je hE cn
  obtain ⟨s, hs, q1, q2⟩ := wM (iE F a) (g_ F a) ((cn : Int) - 1 - E)
  have hdiv : tmN (4 * iE F a) (g_ F a - 2) ((cn : Int) - 1 - E) / tmD (g_ F a - 2) ((cn : Int) - 1 - E) = tmN (iE F a) (g_ F a) ((cn : Int) - 1 - E) / tmD (g_ F a) ((cn : Int) - 1 - E) := by rw [q1, q2, yZ _ _ hs]
  unfold qp at hS
  rw [hdiv] at hS
  obtain ⟨C, hC⟩ : ∃ C : Nat, C = 60 := ⟨_, rfl⟩
  rw [show (61 : Nat) = C + 1 by omega]
  have h5 : 10 ^ cn ≤ 10 ^ C := Nat.pow_le_pow_right (by decide) (by omega)
  have h6 : 10 ^ (C + 1) = 10 * 10 ^ C := Nat.pow_succ'
  have h7 := mg C
  generalize tmN (iE F a) (g_ F a) ((cn : Int) - 1 - E) / tmD (g_ F a) ((cn : Int) - 1 - E) = q at *
  split at hS
  ·rename_i heq
   have := AQ h ha hk hE g (cn + 1) (by omega) hS
   rwa [show (61 : Nat) = C + 1 by omega] at this
  ·rename_i r heq
   have hS2 := Option.some.inj hS
   have hcr : c = r := (congrArg Prod.fst hS2).symm
   split at heq
   ·cases heq
   ·rename_i hb
    have h8 := Option.some.inj heq
    rw [hcr, ← h8]
    split
    ·omega
    ·rename_i hone
     have hq0 : q ≠ 0 := fun e => hone (by rw [e]; simp)
     split <;> omega
theorem NJ {f : Int} {F : Fm} (h : l9 f = some F) {a : Nat} (ha : a < 2 ^ F.W) (hk : kdN F a = 3) {E : Int} (hE : Eo (iE F a) (g_ F a) E) {c cnt : Nat} (hS : shortS (iE F a) (g_ F a) (blN F a) E 40 1 = some (c, cnt)) : c ≠ 0 ∧ c < 10 ^ 61 := AQ h ha hk hE 40 1 (by decide) hS
def NK (neg : Bool) (D : ByteArray) (x : Int) : ByteArray := if x < -5 ∨ 15 < x then sgB neg ++ Hf D x else sgB neg ++ plB D x
theorem NM {f : Int} {F : Fm} (h : l9 f = some F) {a : Nat} (ha : a < 2 ^ F.W) (X : List UInt8) (c : UInt8) (hc : c ≠ 48) {x : Int} (h1 : -2000 ≤ x) (h2 : x ≤ 2000) : ∀ z : Nat, X.length + 1 + z ≤ 100000 →
  Ev (fun k => aj.l19 k f (a : Int) (⟨(X ++ [c] ++ List.replicate z 48).toArray⟩ : ByteArray) x) (NK (ngN F a) (⟨(X ++ [c]).toArray⟩ : ByteArray) x, 0)
 | 0, hz => by
  rw [List.replicate_zero, List.append_nil]
  have hsz : (⟨(X ++ [c]).toArray⟩ : ByteArray).size = X.length + 1 := by show (X ++ [c]).toArray.size = _; simp
  have hw : wrap64 ((((⟨(X ++ [c]).toArray⟩ : ByteArray).size : Nat) : Int) - 1) = ((X.length : Nat) : Int) := by rw [hsz, w64 (by omega) (by omega)]; omega
  have hb : bt (⟨(X ++ [c]).toArray⟩ : ByteArray) ((X.length : Nat) : Int) = ((c.toNat : Nat) : Int) := by
   rw [I_, D5, show bl (⟨(X ++ [c]).toArray⟩ : ByteArray) = X ++ [c] from rfl]
   simp [List.getD]
  have hne : ¬ ((c.toNat : Int) = 48) := fun e => hc (by have e' : (c.toNat : Int) = ((48 : Nat) : Int) := e; rwa [QG c 48 (by decide)] at e')
  refine Ev.step (fun k => by rw [aj.l19, hw, hb]) ?_
  refine Ev.pos (by omega) (Ev.pos (by omega) (Ev.neg (by rw [beq_iff_eq]; exact hne) ?_))
  have hsg := w_ (ngN F a)
  rw [DN h ha]
  unfold NK
  have hsci := Rw (D := (⟨(X ++ [c]).toArray⟩ : ByteArray)) (by omega) (by omega) (x := x) (by omega) (by omega)
  have hpl := ug (D := (⟨(X ++ [c]).toArray⟩ : ByteArray)) (by omega) (x := x) (by omega) (by omega)
  have z1 := Kv (D := (⟨(X ++ [c]).toArray⟩ : ByteArray)) (by omega) (by omega) (x := x) (by omega) (by omega)
  have z2 := D_ (D := (⟨(X ++ [c]).toArray⟩ : ByteArray)) (by omega) (x := x) (by omega) (by omega)
  by_cases hx : x < -5
  ·rw [if_pos (.inl hx)]
   exact Ev.neg (by simpa using hx) (Ev.bs (Ev.bind hsci (Ev.pos (by omega) (Ev.now _))))
  ·refine Ev.pos (by simpa using hx) ?_
   by_cases hx2 : 15 < x
   ·rw [if_pos (.inr hx2)]
    exact Ev.pos (by simpa using hx2) (Ev.bs (Ev.bind hsci (Ev.pos (by omega) (Ev.now _))))
   ·rw [if_neg (by omega)]
    exact Ev.neg (by simpa using hx2) (Ev.bs (Ev.bind hpl (Ev.pos (by omega) (Ev.now _))))
 | z + 1, hz => by
  have e : X ++ [c] ++ List.replicate (z + 1) 48 = (X ++ [c] ++ List.replicate z 48) ++ [48] := by rw [List.replicate_succ', ← List.append_assoc]
  rw [e]
  have hlen : (X ++ [c] ++ List.replicate z (48 : UInt8)).length = X.length + 1 + z := by simp; omega
  have ih := NM h ha X c hc h1 h2 z (by omega)
  generalize X ++ [c] ++ List.replicate z (48 : UInt8) = Y at *
  have hsz : (⟨(Y ++ [(48 : UInt8)]).toArray⟩ : ByteArray).size = Y.length + 1 := by show (Y ++ [(48 : UInt8)]).toArray.size = _; simp
  have hw : wrap64 ((((⟨(Y ++ [(48 : UInt8)]).toArray⟩ : ByteArray).size : Nat) : Int) - 1) = ((Y.length : Nat) : Int) := by rw [hsz, w64 (by omega) (by omega)]; omega
  have hb : bt (⟨(Y ++ [(48 : UInt8)]).toArray⟩ : ByteArray) ((Y.length : Nat) : Int) = 48 := by
   rw [I_, D5, show bl (⟨(Y ++ [(48 : UInt8)]).toArray⟩ : ByteArray) = Y ++ [(48 : UInt8)] from rfl]
   simp [List.getD]
  have hx : (⟨(Y ++ [(48 : UInt8)]).toArray⟩ : ByteArray).extract 0 Y.length = ⟨Y.toArray⟩ := rQ (by rw [uh]; show (Y ++ [(48 : UInt8)]).take Y.length = Y; simp)
  refine Ev.step (fun k => by rw [aj.l19, hw, hb, Int.toNat_natCast, hx]) ?_
  exact Ev.pos (by omega) (Ev.pos (by omega) (Ev.pos rfl (Ev.pos (by omega) (Ev.pos (by omega) ih))))
theorem FI (f : Int) {a : Nat} (ha : a < 2 ^ 64) : ∃ r, Ev (fun k => bW.f k f (a : Int)) r ∧ Ev (fun k => aj.f k f (a : Int)) r := by
 unfold bW.f aj.f
 cases h : l9 f with
 | none =>
  obtain ⟨h0, h1, h2, h3⟩ := xJ h
  refine ⟨(⟨#[]⟩, 2), ?_, ?_⟩
  ·unfold b_.f
   rw [yC h]
   exact Ev.bs (Ev.neg (by decide) (Ev.now _))
  ·unfold dL.f bJ.f
   rw [if_neg h0, if_neg h1, if_neg h2, if_neg h3]
   exact Ev.bs (Ev.pos rfl (Ev.now _))
 | some F =>
  rw [CW h a ha, CX h a ha]
  by_cases hw : a < 2 ^ F.W
  ·rw [if_pos hw]
   by_cases hk : kdN F a = 3
   ·have b := mW h
    obtain ⟨s1, s2, s3, s4, s5⟩ := rJ h a hk
    have hex := Aj F a
    have he : -1074 ≤ g_ F a ∧ g_ F a ≤ 973 := by unfold g_; omega
    have hp : 2 ^ F.P ≤ 2 ^ 53 := Nat.pow_le_pow_right (by decide) (by omega)
    have e53 : (2 : Nat) ^ 53 = 9007199254740992 := by decide
    obtain ⟨E, d1, d2, d3, d4⟩ := Jq (ngN F a) (iE F a) (g_ F a) ((blN F a : Nat) : Int) ⟨by omega, by omega, by omega, by omega⟩
    have hb12 : blN F a = 1 ∨ blN F a = 2 := by unfold blN; split <;> simp
    obtain ⟨c, cnt, hS, hc1, hc2⟩ := FD (iE F a) (blN F a) (g_ F a) E 40 1 18 (by decide) (by decide) (by
     have := P_ (iE F a) (blN F a) (g_ F a) E (by omega) s1 hb12 d2
     rwa [show ((18 : Nat) : Int) - 1 - E = 17 - E by omega])
    have hc0 : c ≠ 0 ∧ c < 10 ^ 61 := NJ h hw hk d2 hS
    obtain ⟨X, d, z, hX, hd⟩ := wL _ (AP hc0.1)
    have hlen : (Lib.decDigits c).length ≤ 61 := by
     rw [DR hc0.1]
     obtain ⟨r1, r2, r3⟩ := o7 hc0.1
     obtain ⟨C, hC⟩ : ∃ C : Nat, C = 61 := ⟨_, rfl⟩
     have hcC : c < 10 ^ C := by rw [hC]; exact hc0.2
     have := (Nat.pow_lt_pow_iff_right (show 1 < 10 by decide)).1 (Nat.lt_of_le_of_lt r1 hcC)
     omega
    have hfc : iL c := by
     obtain ⟨C, hC⟩ : ∃ C : Nat, C = 61 := ⟨_, rfl⟩
     have hcC : c < 10 ^ C := by rw [hC]; exact hc0.2
     have := CG hcC
     unfold iL
     omega
    have hlX : X.length + 1 + z = (Lib.decDigits c).length := by rw [hX]; simp; omega
    have hD : Lib.trimRightB (Lib.decDigits c) 48 = X ++ [d] := by rw [hX]; exact xX X d z hd
    have hszD : (⟨(X ++ [d]).toArray⟩ : ByteArray).size = X.length + 1 := by show (X ++ [d]).toArray.size = _; simp
    have hsg := w_ (ngN F a)
    obtain ⟨x, hxe⟩ : ∃ x : Int, E + ((Lib.decDigits c).length : Int) - (cnt : Int) = x := ⟨_, rfl⟩
    have hxb : -2000 ≤ x ∧ x ≤ 2000 := by omega
    refine ⟨(NK (ngN F a) ⟨(X ++ [d]).toArray⟩ x, 0), ?_, ?_⟩
    ·refine Ev.bs (Ev.pos rfl ?_)
     refine Ev.bind (Ev.far 3 (fun k => by rw [I4 h hw, if_pos hk])) ?_
     simp only []
     refine Ev.pos (qR.2 hk) ?_
     have hsh : gI.f (ngN F a) ((iE F a : Nat) : Int) (g_ F a) ((blN F a : Nat) : Int) = some ((⟨(X ++ [d]).toArray⟩ : ByteArray), x) := by
      unfold gI.f
      rw [if_pos ⟨⟨by omega, by omega, by omega, by omega⟩, by omega⟩, d1]
      simp only [Option.bind_some, Int.toNat_natCast]
      rw [hS]
      simp only [Option.map_some, hD, hxe]
     rw [hsh]
     refine Ev.bs ?_
     simp only []
     have hj : Ev (fun k => bW.j0 k (⟨(X ++ [d]).toArray⟩ : ByteArray) x (decide (-5 ≤ x ∧ x ≤ 15)) (ngN F a) ((iE F a : Nat) : Int) (g_ F a) ((blN F a : Nat) : Int)) (NK (ngN F a) ⟨(X ++ [d]).toArray⟩ x, 0) := by
      refine Ev.step (fun k => by rw [bW.j0]) ?_
      rw [Ih]
      unfold NK
      have z1 := Kv (D := (⟨(X ++ [d]).toArray⟩ : ByteArray)) (by omega) (by omega) (x := x) (by omega) (by omega)
      have z2 := D_ (D := (⟨(X ++ [d]).toArray⟩ : ByteArray)) (by omega) (x := x) (by omega) (by omega)
      by_cases hx : -5 ≤ x ∧ x ≤ 15
      ·rw [if_neg (show ¬ (x < -5 ∨ 15 < x) by omega), NH (by omega) (by omega) (by omega)]
       exact Ev.pos (decide_eq_true hx) (Ev.bs (Ev.bs (Ev.pos (by omega) (Ev.now _))))
      ·rw [if_pos (show x < -5 ∨ 15 < x by omega), Ru (by omega) (by omega) (by omega) (by omega)]
       exact Ev.neg (by simpa using hx) (Ev.bs (Ev.bs (Ev.pos (by omega) (Ev.now _))))
     by_cases hx5 : x ≥ -5
     ·refine Ev.pos hx5 ?_
      rw [show decide (x ≤ 15) = decide (-5 ≤ x ∧ x ≤ 15) by rw [decide_eq_decide]; omega]
      exact hj
     ·refine Ev.neg hx5 ?_
      rw [decide_eq_false (show ¬ (-5 ≤ x ∧ x ≤ 15) by omega)] at hj
      exact hj
    ·refine Ev.bs (Ev.neg (by decide) ?_)
     refine Ev.bind (Ev.far 1 (fun k => uM h hw k)) ?_
     refine Ev.neg (by rw [qR.2 hk, show (⟨#[]⟩ : ByteArray).toList = ([] : List UInt8) from qc _]; decide) ?_
     refine Ev.bind (yB h hw hk) ?_
     refine Ev.bind (Rt s1 (Nat.lt_of_lt_of_le s2 hp) he.1 he.2 d2 d3 d4) ?_
     refine FH h hw hk d2 d3 d4 ?_ 40 1 (by decide) (by decide) hS
     refine Ev.step (fun k => by rw [aj.j17]) (Ev.bind (I5 hc0.1 hfc) ?_)
     have hl := NM h hw X d hd (x := x) (by omega) (by omega) z (by omega)
     rw [← hX] at hl
     have hts := yV c
     simp only []
     rw [w64 (x := E - (cnt : Int)) (by omega) (by omega), hts, w64 (by omega) (by omega), show E - (cnt : Int) + ((Lib.decDigits c).length : Int) = x by omega]
     exact hl
   ·have hnn : ¬ (nameB F a).toList = ([] : List UInt8) := fun e => hk (qR.1 e)
    refine ⟨(nameB F a, 0), ?_, ?_⟩
    ·refine Ev.bs (Ev.pos rfl ?_)
     refine Ev.bind (Ev.far 3 (fun k => by rw [I4 h hw, if_neg hk])) ?_
     exact Ev.neg hnn (Ev.now _)
    ·refine Ev.bs (Ev.neg (by decide) ?_)
     refine Ev.bind (Ev.far 1 (fun k => uM h hw k)) ?_
     exact Ev.pos (by simpa using hnn) (Ev.now _)
  ·rw [if_neg hw]
   exact ⟨(⟨#[]⟩, 4), Ev.bs (Ev.neg (by decide) (Ev.now _)), Ev.bs (Ev.pos rfl (Ev.now _))⟩
end Go.Proofs.YtafikkmnkeddpaaGreatDoor.P
namespace Go.Proofs.YtafikkmnkeddpaaGreatDoor.P
open Go.RowKit Go.Proofs.YtafikkmnkeddpaaGreatDoorW.PrintWords Go.Proofs.YtafikkmnkeddpaaGreatDoorW.PrintLast Go.Proofs.YtafikkmnkeddpaaGreatDoorW.PrintMore
theorem Qa {n : Nat} (h0 : n ≠ 0) (h : n < WB) : ([(n : Int)] : List Int) = wI n := (uN h0 h).symm
theorem QH {f : Int} {F : Fm} (h : l9 f = some F) {a : Nat} (ha : a < 2 ^ F.W) (X : List UInt8) (c : UInt8) (hc : c ≠ 48) : ∀ (z b : Nat), X.length + 1 + z ≤ 4000 → b ≤ 4000 →
  Ev (fun k => bf.l0 k f (a : Int) (b : Int) (⟨(X ++ [c] ++ List.replicate z 48).toArray⟩ : ByteArray)) (sgB (ngN F a) ++ plB (⟨(X ++ [c] ++ List.replicate (z - b) 48).toArray⟩ : ByteArray) ((X.length : Int) + z - b), 0)
 | z, 0, hz, hb => by
  have hsz : (⟨(X ++ [c] ++ List.replicate z 48).toArray⟩ : ByteArray).size = X.length + 1 + z := by show (X ++ [c] ++ List.replicate z 48).toArray.size = _; simp; omega
  have hsg := w_ (ngN F a)
  refine Ev.step (fun k => by rw [bf.l0, if_neg (by decide), hsz]) ?_
  rw [DN h ha, w64 (x := ((X.length + 1 + z : Nat) : Int) - 1) (by omega) (by omega), w64 (by omega) (by omega), show ((X.length + 1 + z : Nat) : Int) - 1 - ((0 : Nat) : Int) = (X.length : Int) + z - ((0 : Nat) : Int) by omega, Nat.sub_zero]
  have hpl := ug (D := (⟨(X ++ [c] ++ List.replicate z 48).toArray⟩ : ByteArray)) (by omega) (x := (X.length : Int) + z - ((0 : Nat) : Int)) (by omega) (by omega)
  have z2 := D_ (D := (⟨(X ++ [c] ++ List.replicate z 48).toArray⟩ : ByteArray)) (by omega) (x := (X.length : Int) + z - ((0 : Nat) : Int)) (by omega) (by omega)
  exact Ev.bs (Ev.bind hpl (Ev.pos (by omega) (Ev.now _)))
 | 0, b + 1, hz, hb => by
  rw [Nat.zero_sub, List.replicate_zero, List.append_nil]
  have hsz : (⟨(X ++ [c]).toArray⟩ : ByteArray).size = X.length + 1 := by show (X ++ [c]).toArray.size = _; simp
  have hw : wrap64 ((((⟨(X ++ [c]).toArray⟩ : ByteArray).size : Nat) : Int) - 1) = ((X.length : Nat) : Int) := by rw [hsz, w64 (by omega) (by omega)]; omega
  have hbt : bt (⟨(X ++ [c]).toArray⟩ : ByteArray) ((X.length : Nat) : Int) = ((c.toNat : Nat) : Int) := by
   rw [I_, D5, show bl (⟨(X ++ [c]).toArray⟩ : ByteArray) = X ++ [c] from rfl]
   simp [List.getD]
  have hne : ¬ ((c.toNat : Int) = 48) := fun e => hc (by have e' : (c.toNat : Int) = ((48 : Nat) : Int) := e; rwa [QG c 48 (by decide)] at e')
  have hsg := w_ (ngN F a)
  refine Ev.step (fun k => by rw [bf.l0, hw, hbt, if_pos (by omega), if_pos (by omega), if_pos (by omega), if_neg hne]) ?_
  rw [DN h ha, w64 (x := (X.length : Int) - ((b + 1 : Nat) : Int)) (by omega) (by omega), show (X.length : Int) + ((0 : Nat) : Int) - ((b + 1 : Nat) : Int) = (X.length : Int) - ((b + 1 : Nat) : Int) by omega]
  have hpl := ug (D := (⟨(X ++ [c]).toArray⟩ : ByteArray)) (by omega) (x := (X.length : Int) - ((b + 1 : Nat) : Int)) (by omega) (by omega)
  have z2 := D_ (D := (⟨(X ++ [c]).toArray⟩ : ByteArray)) (by omega) (x := (X.length : Int) - ((b + 1 : Nat) : Int)) (by omega) (by omega)
  exact Ev.bs (Ev.bind hpl (Ev.pos (by omega) (Ev.now _)))
 | z + 1, b + 1, hz, hb => by
  have ih := QH h ha X c hc z b (by omega) (by omega)
  have e : X ++ [c] ++ List.replicate (z + 1) 48 = (X ++ [c] ++ List.replicate z 48) ++ [48] := by rw [List.replicate_succ', ← List.append_assoc]
  rw [e, show z + 1 - (b + 1) = z - b by omega, show (X.length : Int) + ((z + 1 : Nat) : Int) - ((b + 1 : Nat) : Int) = (X.length : Int) + z - b by omega]
  have hlen : (X ++ [c] ++ List.replicate z (48 : UInt8)).length = X.length + 1 + z := by simp; omega
  generalize X ++ [c] ++ List.replicate z (48 : UInt8) = Y at *
  have hsz : (⟨(Y ++ [(48 : UInt8)]).toArray⟩ : ByteArray).size = Y.length + 1 := by show (Y ++ [(48 : UInt8)]).toArray.size = _; simp
  have hw : wrap64 ((((⟨(Y ++ [(48 : UInt8)]).toArray⟩ : ByteArray).size : Nat) : Int) - 1) = ((Y.length : Nat) : Int) := by rw [hsz, w64 (by omega) (by omega)]; omega
  have hbt : bt (⟨(Y ++ [(48 : UInt8)]).toArray⟩ : ByteArray) ((Y.length : Nat) : Int) = 48 := by
   rw [I_, D5, show bl (⟨(Y ++ [(48 : UInt8)]).toArray⟩ : ByteArray) = Y ++ [(48 : UInt8)] from rfl]
   simp [List.getD]
  have hx : (⟨(Y ++ [(48 : UInt8)]).toArray⟩ : ByteArray).extract 0 Y.length = ⟨Y.toArray⟩ := rQ (by rw [uh]; show (Y ++ [(48 : UInt8)]).take Y.length = Y; simp)
  have hb1 : wrap64 (((b + 1 : Nat) : Int) - 1) = (b : Int) := by rw [w64 (by omega) (by omega)]; omega
  refine Ev.step (fun k => by rw [bf.l0, hw, hbt, Int.toNat_natCast, hx, hb1, if_pos (by omega), if_pos (by omega), if_pos (by omega), if_pos rfl, if_pos (by omega), if_pos (by omega)]) ih
theorem Qb (T X : List UInt8) (c : UInt8) (z b : Nat) (hT : T = X ++ [c] ++ List.replicate z 48) (hc : c ≠ 48) (hb : 0 < b) (D : ByteArray) (hD : bl D = X ++ [c] ++ List.replicate (z - b) 48) :
    bl (plB D ((X.length : Int) + z - b)) =
      (if T.length ≤ b then [48, 46] ++ (List.replicate (b - T.length) 48 ++ (X ++ [c]))
       else if Lib.trimRightB (T.drop (T.length - b)) 48 = [] then T.take (T.length - b) else T.take (T.length - b) ++ ([46] ++ Lib.trimRightB (T.drop (T.length - b)) 48)) := by
  have hlen : T.length = X.length + 1 + z := by rw [hT]; simp; omega
  have hsz : D.size = X.length + 1 + (z - b) := by rw [← xI, hD]; simp; omega
  unfold plB
  by_cases h1 : T.length ≤ b
  · rw [if_pos (by omega), if_pos h1, o_, o_, hD, show z - b = 0 by omega]
    show [48, 46] ++ List.replicate (-((X.length : Int) + z - b) - 1).toNat 48 ++ (X ++ [c] ++ List.replicate 0 48) = _
    rw [show (-((X.length : Int) + z - b) - 1).toNat = b - T.length by omega]
    simp
  · rw [if_neg (show ¬ ((X.length : Int) + z - b < 0) by omega), if_neg h1]
    by_cases h2 : b ≤ z
    · have hd : T.drop (T.length - b) = List.replicate b 48 := by
        rw [hT, show (X ++ [c] ++ List.replicate z (48 : UInt8)).length - b = (X ++ [c]).length + (z - b) by simp; omega, List.drop_length_add_append, List.drop_replicate]
        congr 1
        omega
      have htr : Lib.trimRightB (List.replicate b 48) 48 = [] := by
        unfold Lib.trimRightB
        rw [List.reverse_replicate]
        have : ∀ z : Nat, List.dropWhile (· == 48) (List.replicate z (48 : UInt8)) = [] := by
          intro z
          induction z with
          | zero => rfl
          | succ z ih => rw [List.replicate_succ, List.dropWhile_cons_of_pos (by rfl), ih]
        rw [this]
        rfl
      rw [hd, htr, if_pos rfl, if_pos (by omega), show ((X.length : Int) + z - b + 1 - ((D.size : Nat) : Int)).toNat = 0 by omega, o_, hD]
      show X ++ [c] ++ List.replicate (z - b) 48 ++ List.replicate 0 48 = T.take (T.length - b)
      rw [hT, show (X ++ [c] ++ List.replicate z (48 : UInt8)).length - b = (X ++ [c]).length + (z - b) by simp; omega, List.take_length_add_append, List.take_replicate, show min (z - b) z = z - b by omega]
      simp
    · have hd : T.drop (T.length - b) = (X.drop (T.length - b) ++ [c]) ++ List.replicate z 48 := by
        rw [hT, List.drop_append_of_le_length (by simp; omega), List.drop_append_of_le_length (by simp; omega)]
      have htr := xX (X.drop (T.length - b)) c z hc
      rw [hd, htr, if_neg (show ¬ ((D.size : Int) ≤ (X.length : Int) + z - b + 1) by omega), if_neg (show ¬ (X.drop (T.length - b) ++ [c] = []) by simp)]
      rw [o_, o_, uh, vF, hD, show ((X.length : Int) + z - b + 1).toNat = T.length - b by omega, show z - b = 0 by omega, List.replicate_zero, List.append_nil]
      show (X ++ [c]).take (T.length - b) ++ [46] ++ (X ++ [c]).drop (T.length - b) = T.take (T.length - b) ++ ([46] ++ (X.drop (T.length - b) ++ [c]))
      have hle : T.length - b ≤ X.length := by omega
      generalize T.length - b = p at *
      rw [hT, List.take_append_of_le_length (l₁ := X ++ [c]) (by simp; omega), List.drop_append_of_le_length (l₁ := X) hle]
      simp
end Go.Proofs.YtafikkmnkeddpaaGreatDoor.P
namespace Go.Proofs.YtafikkmnkeddpaaGreatDoor.P
open Go.RowKit Go.Proofs.YtafikkmnkeddpaaGreatDoorW.PrintWords Go.Proofs.YtafikkmnkeddpaaGreatDoorW.PrintLast Go.Proofs.YtafikkmnkeddpaaGreatDoorW.PrintMore
theorem wO {b : Nat} (h : b ≤ 2000) : iL (5 ^ b) := by
 have h1 : 5 ^ b < 10 ^ (b + 1) := Nat.lt_of_le_of_lt (Nat.pow_le_pow_left (by decide) b) (Nat.pow_lt_pow_right (by decide) (by omega))
 have := CG h1
 unfold iL
 omega
theorem Ue {b : Nat} (h : b ≤ 2000) : gX.f 5 (b : Int) = some (wI (5 ^ b), 0) := by
 unfold gX.f
 rw [if_pos ⟨by decide, by decide, by omega, by omega, by rw [Int.toNat_natCast]; exact wO h⟩, Int.toNat_natCast]
 rfl
theorem Sj (s : ByteArray) (h : s.size ≤ 1000000) : fZ.f s (⟨#[48]⟩ : ByteArray) = some (⟨(Lib.trimRightB (bl s) 48).toArray⟩ : ByteArray) := by
 unfold fZ.f
 have e : bt (⟨#[48]⟩ : ByteArray) 0 = 48 := by decide +kernel
 rw [if_pos ⟨by decide, by rw [e]; decide, by omega⟩, e]
 rfl
theorem J3 (l : List UInt8) : (Lib.trimRightB l 48).length ≤ l.length := by
 unfold Lib.trimRightB
 have := (List.dropWhile_sublist (fun x : UInt8 => x == 48) (l := l.reverse)).length_le
 rw [List.length_reverse] at this ⊢
 exact this
theorem Uf {v k : Nat} (hv : v ≠ 0) (h : v < 10 ^ k) : (Lib.decDigits v).length ≤ k := by
 rw [DR hv]
 obtain ⟨a, b, c⟩ := o7 hv
 have := (Nat.pow_lt_pow_iff_right (show 1 < 10 by decide)).1 (Nat.lt_of_le_of_lt a h)
 omega
def whL (l : List UInt8) (p : Nat) : List UInt8 := if Lib.trimRightB (l.drop p) 48 = [] then l.take p else l.take p ++ ([46] ++ Lib.trimRightB (l.drop p) 48)
theorem QI (s : ByteArray) (neg : Bool) (n e bel : Int) (hs : s.size ≤ 100000) (h1 : -(s.size : Int) ≤ e) (h2 : e ≤ 0) : Ev (fun k => dY.j0 k s neg n e bel) (sgB neg ++ ⟨(whL (bl s) ((s.size : Int) + e).toNat).toArray⟩, 0) := by
 have hsg := w_ neg
 refine Ev.step (fun k => by rw [dY.j0, w64 (by omega) (by omega), if_pos (by omega), if_pos (by omega)]) ?_
 have hx := nK s ((s.size : Int) + e).toNat
 have hx0 : (s.extract 0 ((s.size : Int) + e).toNat).size ≤ s.size := by rw [ByteArray.size_extract]; omega
 rw [Sj _ (by omega)]
 refine Ev.bs ?_
 rw [vF]
 have htl := J3 ((bl s).drop ((s.size : Int) + e).toNat)
 rw [List.length_drop, xI] at htl
 unfold whL
 have hsz : (⟨(Lib.trimRightB ((bl s).drop ((s.size : Int) + e).toNat) 48).toArray⟩ : ByteArray).size = (Lib.trimRightB ((bl s).drop ((s.size : Int) + e).toNat) 48).length := by show (Lib.trimRightB ((bl s).drop ((s.size : Int) + e).toNat) 48).toArray.size = _; simp
 by_cases hz : Lib.trimRightB ((bl s).drop ((s.size : Int) + e).toNat) 48 = []
 ·rw [if_pos hz]
  refine Ev.pos (by rw [qc]; exact hz) ?_
  rw [Ih, show s.extract 0 ((s.size : Int) + e).toNat = (⟨((bl s).take ((s.size : Int) + e).toNat).toArray⟩ : ByteArray) from rQ (by rw [uh])] at *
  exact Ev.bs (Ev.pos (by omega) (Ev.now _))
 ·rw [if_neg hz]
  refine Ev.neg (by rw [qc]; exact hz) ?_
  rw [Ih]
  refine Ev.pos (by omega) (Ev.pos (by rw [ByteArray.size_append]; show _ + (1 + _) ≤ _; omega) (Ev.bs (Ev.pos (by rw [ByteArray.size_append, ByteArray.size_append]; show _ + (_ + (1 + _)) ≤ _; omega) ?_)))
  rw [show s.extract 0 ((s.size : Int) + e).toNat ++ ((⟨#[46]⟩ : ByteArray) ++ ⟨(Lib.trimRightB ((bl s).drop ((s.size : Int) + e).toNat) 48).toArray⟩) = (⟨((bl s).take ((s.size : Int) + e).toNat ++ ([46] ++ Lib.trimRightB ((bl s).drop ((s.size : Int) + e).toNat) 48)).toArray⟩ : ByteArray) from rQ (by rw [o_, o_, uh])]
  exact Ev.now _
theorem NP (b : Nat) : fM (2 ^ b) = b + 1 := qC (Nat.le_refl _) (by rw [Nat.pow_succ]; have := Nat.two_pow_pos b; omega)
theorem J4 (f : Int) {F : Fm} (h : l9 f = some F) {a : Nat} (ha : a < 2 ^ F.W) (hk : kdN F a = 3) : ∃ r, Ev (fun k => dY.f k f (a : Int)) r ∧ Ev (fun k => bf.f k f (a : Int)) r := by
 have b := mW h
 obtain ⟨s1, s2, s3, s4, s5⟩ := rJ h a hk
 have hex := Aj F a
 have he : -1074 ≤ g_ F a ∧ g_ F a ≤ 973 := by unfold g_; omega
 have hp : 2 ^ F.P ≤ 2 ^ 53 := Nat.pow_le_pow_right (by decide) (by omega)
 have e53 : (2 : Nat) ^ 53 ≤ 10 ^ 16 := by decide
 have ha64 : a < 2 ^ 64 := Nat.lt_of_lt_of_le ha (Nat.pow_le_pow_right (by decide) (by omega))
 have hsg := w_ (ngN F a)
 obtain ⟨q, hq⟩ : ∃ q : Nat, q = (-(g_ F a)).toNat := ⟨_, rfl⟩
 obtain ⟨p, hpp⟩ : ∃ p : Nat, p = (g_ F a).toNat := ⟨_, rfl⟩
 obtain ⟨C, hC⟩ : ∃ C : Nat, C = 16 := ⟨_, rfl⟩
 have hsC : iE F a < 10 ^ C := by rw [hC]; omega
 have hnum : iE F a * 2 ^ p < 10 ^ (C + p) := by
  rw [Nat.pow_add]
  exact Nat.mul_lt_mul_of_lt_of_le hsC (Nat.pow_le_pow_left (by decide) p) (mg p)
 have hv : iE F a * 2 ^ p * 5 ^ q < 10 ^ (C + p + q) := by
  rw [Nat.pow_add 10 (C + p)]
  exact Nat.mul_lt_mul_of_lt_of_le hnum (Nat.pow_le_pow_left (by decide) q) (mg q)
 have hp5 := Nat.pow_pos (n := q) (show 0 < 5 by decide)
 have hv0 : iE F a * 2 ^ p * 5 ^ q ≠ 0 := Nat.mul_ne_zero (Nat.mul_ne_zero s1 (by have := Nat.two_pow_pos p; omega)) (by omega)
 have hlen := Uf hv0 hv
 have hfv : iL (iE F a * 2 ^ p * 5 ^ q) := by
  have := CG hv
  unfold iL
  omega
 have hfn : iL (iE F a * 2 ^ p) := by
  have := CG hnum
  unfold iL
  omega
 obtain ⟨X, d, z, hX, hd⟩ := wL _ (AP hv0)
 have hlX : X.length + 1 + z = (Lib.decDigits (iE F a * 2 ^ p * 5 ^ q)).length := by rw [hX]; simp; omega
 have htb : txB (iE F a * 2 ^ p * 5 ^ q) = (⟨(X ++ [d] ++ List.replicate z 48).toArray⟩ : ByteArray) := by unfold txB; rw [hX]
 have hts := yV (iE F a * 2 ^ p * 5 ^ q)
 have hsW : iE F a < WB := Nat.lt_of_lt_of_le s2 (Nat.le_trans hp (by decide))
 have hw1 := Qa s1 hsW
 have hone : iL (iE F a) := Kw hfn (Nat.le_mul_of_pos_right _ (Nat.two_pow_pos p))
 refine ⟨(sgB (ngN F a) ++ plB (⟨(X ++ [d] ++ List.replicate (z - q) 48).toArray⟩ : ByteArray) ((X.length : Int) + z - q), 0), ?_, ?_⟩
 ·unfold dY.f
  rw [CW h a ha64, if_pos ha]
  refine Ev.bs (Ev.pos rfl ?_)
  refine Ev.bind (Ev.far 3 (fun k => by rw [I4 h ha, if_pos hk])) ?_
  simp only []
  refine Ev.pos (qR.2 hk) ?_
  rw [hw1]
  by_cases hc : g_ F a ≥ 0
  ·have hq0 : q = 0 := by omega
   subst hq0
   rw [Nat.pow_zero, Nat.mul_one] at htb hfv hts hlen hlX
   have hsh := Ik (a := iE F a) hc (by omega) hone (by rw [← hpp]; exact hfn)
   rw [← hpp] at hsh
   refine Ev.pos hc ?_
   rw [hsh]
   refine Ev.bs ?_
   simp only []
   rw [QC hfv, Ih]
   refine Ev.bs (Ev.bs (Ev.pos (by simp only []; omega) ?_))
   have hpl : plB (⟨(X ++ [d] ++ List.replicate (z - 0) 48).toArray⟩ : ByteArray) ((X.length : Int) + z - ((0 : Nat) : Int)) = txB (iE F a * 2 ^ p) := by
    rw [htb, Nat.sub_zero]
    have hsz : (⟨(X ++ [d] ++ List.replicate z 48).toArray⟩ : ByteArray).size = X.length + 1 + z := by show (X ++ [d] ++ List.replicate z 48).toArray.size = _; simp; omega
    unfold plB
    rw [if_neg (by omega), hsz, if_pos (by omega), show ((X.length : Int) + z - ((0 : Nat) : Int) + 1 - ((X.length + 1 + z : Nat) : Int)).toNat = 0 by omega]
    exact rQ (by rw [o_]; show _ ++ ([] : List UInt8) = _; rw [List.append_nil])
   rw [hpl]
   exact Ev.now _
  ·have hp0 : p = 0 := by omega
   subst hp0
   rw [Nat.pow_zero, Nat.mul_one] at *
   have hqe : wrap64 (-(g_ F a)) = (q : Int) := by rw [w64 (by omega) (by omega)]; omega
   refine Ev.neg hc ?_
   rw [hqe, Ue (by omega)]
   refine Ev.bs ?_
   simp only []
   rw [Ij (m := 0) hone (wO (by omega)) hfv]
   refine Ev.bs ?_
   simp only []
   rw [QC hfv]
   refine Ev.bs ?_
   simp only []
   have hD : bl (⟨(X ++ [d] ++ List.replicate (z - q) 48).toArray⟩ : ByteArray) = X ++ [d] ++ List.replicate (z - q) 48 := rfl
   have hj := Qb (Lib.decDigits (iE F a * 5 ^ q)) X d z q hX hd (by omega) _ hD
   have hww : wrap64 ((wrap64 ((q : Int) - (((txB (iE F a * 5 ^ q)).size : Nat) : Int))) + 1) = (q : Int) - (((txB (iE F a * 5 ^ q)).size : Nat) : Int) + 1 := by rw [w64 (x := (q : Int) - (((txB (iE F a * 5 ^ q)).size : Nat) : Int)) (by omega) (by omega), w64 (by omega) (by omega)]
   rw [hww]
   by_cases hsh : (Lib.decDigits (iE F a * 5 ^ q)).length ≤ q
   ·refine Ev.pos (by omega) ?_
    rw [NG (by omega) (by omega)]
    have hn := qX ((q : Int) - (((txB (iE F a * 5 ^ q)).size : Nat) : Int) + 1).toNat
    refine Ev.bs (Ev.pos (by omega) ?_)
    have hs : (vN ((q : Int) - (((txB (iE F a * 5 ^ q)).size : Nat) : Int) + 1).toNat ++ txB (iE F a * 5 ^ q)).size = q + 1 := by rw [ByteArray.size_append, hn]; omega
    have hj0 := QI (vN ((q : Int) - (((txB (iE F a * 5 ^ q)).size : Nat) : Int) + 1).toNat ++ txB (iE F a * 5 ^ q)) (ngN F a) ((iE F a : Nat) : Int) (g_ F a) ((blN F a : Nat) : Int) (by omega) (by omega) (by omega)
    rw [hs, show (((q + 1 : Nat) : Int) + g_ F a).toNat = 1 by omega] at hj0
    have hbl : bl (vN ((q : Int) - (((txB (iE F a * 5 ^ q)).size : Nat) : Int) + 1).toNat ++ txB (iE F a * 5 ^ q)) = 48 :: (List.replicate (q - (Lib.decDigits (iE F a * 5 ^ q)).length) 48 ++ Lib.decDigits (iE F a * 5 ^ q)) := by
     rw [o_, show ((q : Int) - (((txB (iE F a * 5 ^ q)).size : Nat) : Int) + 1).toNat = (q - (Lib.decDigits (iE F a * 5 ^ q)).length) + 1 by omega]
     rfl
    rw [hbl] at hj0
    have hwh : whL (48 :: (List.replicate (q - (Lib.decDigits (iE F a * 5 ^ q)).length) 48 ++ Lib.decDigits (iE F a * 5 ^ q))) 1 = bl (plB (⟨(X ++ [d] ++ List.replicate (z - q) 48).toArray⟩ : ByteArray) ((X.length : Int) + z - q)) := by
     rw [hj, if_pos hsh]
     unfold whL
     show (if Lib.trimRightB (List.replicate (q - (Lib.decDigits (iE F a * 5 ^ q)).length) 48 ++ Lib.decDigits (iE F a * 5 ^ q)) 48 = [] then [48] else [48] ++ ([46] ++ Lib.trimRightB (List.replicate (q - (Lib.decDigits (iE F a * 5 ^ q)).length) 48 ++ Lib.decDigits (iE F a * 5 ^ q)) 48)) = _
     have htr : Lib.trimRightB (List.replicate (q - (Lib.decDigits (iE F a * 5 ^ q)).length) 48 ++ Lib.decDigits (iE F a * 5 ^ q)) 48 = List.replicate (q - (Lib.decDigits (iE F a * 5 ^ q)).length) 48 ++ (X ++ [d]) := by
      generalize List.replicate (q - (Lib.decDigits (iE F a * 5 ^ q)).length) (48 : UInt8) = R
      rw [hX, show R ++ (X ++ [d] ++ List.replicate z 48) = (R ++ X) ++ [d] ++ List.replicate z 48 by simp, xX _ _ _ hd, List.append_assoc]
     rw [htr, if_neg (by simp)]
     rfl
    rw [hwh, show (⟨(bl (plB (⟨(X ++ [d] ++ List.replicate (z - q) (48 : UInt8)).toArray⟩ : ByteArray) ((X.length : Int) + z - q))).toArray⟩ : ByteArray) = plB (⟨(X ++ [d] ++ List.replicate (z - q) (48 : UInt8)).toArray⟩ : ByteArray) ((X.length : Int) + z - q) from rQ rfl] at hj0
    exact hj0
   ·refine Ev.neg (by omega) ?_
    have hj0 := QI (txB (iE F a * 5 ^ q)) (ngN F a) ((iE F a : Nat) : Int) (g_ F a) ((blN F a : Nat) : Int) (by omega) (by omega) (by omega)
    rw [show ((((txB (iE F a * 5 ^ q)).size : Nat) : Int) + g_ F a).toNat = (Lib.decDigits (iE F a * 5 ^ q)).length - q by omega] at hj0
    have hwh : whL (bl (txB (iE F a * 5 ^ q))) ((Lib.decDigits (iE F a * 5 ^ q)).length - q) = bl (plB (⟨(X ++ [d] ++ List.replicate (z - q) 48).toArray⟩ : ByteArray) ((X.length : Int) + z - q)) := by
     rw [hj, if_neg hsh]
     rfl
    rw [hwh, show (⟨(bl (plB (⟨(X ++ [d] ++ List.replicate (z - q) (48 : UInt8)).toArray⟩ : ByteArray) ((X.length : Int) + z - q))).toArray⟩ : ByteArray) = plB (⟨(X ++ [d] ++ List.replicate (z - q) (48 : UInt8)).toArray⟩ : ByteArray) ((X.length : Int) + z - q) from rQ rfl] at hj0
    exact hj0
 ·unfold bf.f
  rw [CX h a ha64, if_pos ha]
  refine Ev.bs (Ev.pos rfl ?_)
  refine Ev.bind (Ev.far 1 (fun k => uM h ha k)) ?_
  refine Ev.pos (qR.2 hk) ?_
  have hfr := yB h ha hk
  rw [← hpp, ← hq] at hfr
  refine Ev.bind hfr ?_
  simp only []
  have hl2 : (toW (2 ^ q)).length ≤ 20 := pY (Nat.pow_lt_pow_right (by decide) (Nat.lt_succ_self _)) (by omega)
  have hlen2 := tV (v := 2 ^ q) (by unfold mX; omega)
  rw [NP] at hlen2
  refine Ev.bind hlen2 ?_
  have hqq : wrap64 (((q + 1 : Nat) : Int) - 1) = (q : Int) := by rw [w64 (by omega) (by omega)]; omega
  rw [hqq]
  refine Ev.bind (Fb (b := 5) (n := q) (by decide) (by decide) (by omega) (wO (by omega))) ?_
  simp only []
  refine Ev.bind (tZ (a := iE F a * 2 ^ p) (b := 5 ^ q) (Nat.le_trans hfn (by decide)) (Nat.le_trans (wO (by omega)) (by decide))) ?_
  refine Ev.bind (I5 hv0 hfv) ?_
  simp only []
  rw [htb]
  exact QH h ha X d hd z q (by omega) (by omega)
theorem NQ (f : Int) {a : Nat} (ha : a < 2 ^ 64) : ∃ r, Ev (fun k => dY.f k f (a : Int)) r ∧ Ev (fun k => bf.f k f (a : Int)) r := by
 cases h : l9 f with
 | none =>
  obtain ⟨h0, h1, h2, h3⟩ := xJ h
  refine ⟨(⟨#[]⟩, 2), ?_, ?_⟩
  ·unfold dY.f b_.f
   rw [yC h]
   exact Ev.bs (Ev.neg (by decide) (Ev.now _))
  ·unfold bf.f dL.f bJ.f
   rw [if_neg h0, if_neg h1, if_neg h2, if_neg h3]
   exact Ev.bs (Ev.neg (by decide) (Ev.now _))
 | some F =>
  by_cases hw : a < 2 ^ F.W
  ·by_cases hk : kdN F a = 3
   ·exact J4 f h hw hk
   ·have hnn : ¬ (nameB F a).toList = ([] : List UInt8) := fun e => hk (qR.1 e)
    refine ⟨(nameB F a, 0), ?_, ?_⟩
    ·unfold dY.f
     rw [CW h a ha, if_pos hw]
     refine Ev.bs (Ev.pos rfl ?_)
     refine Ev.bind (Ev.far 3 (fun k => by rw [I4 h hw, if_neg hk])) ?_
     exact Ev.neg hnn (Ev.now _)
    ·unfold bf.f
     rw [CX h a ha, if_pos hw]
     refine Ev.bs (Ev.pos rfl ?_)
     refine Ev.bind (Ev.far 1 (fun k => uM h hw k)) ?_
     exact Ev.neg hnn (Ev.now _)
  ·refine ⟨(⟨#[]⟩, 4), ?_, ?_⟩
   ·unfold dY.f
    rw [CW h a ha, if_neg hw]
    exact Ev.bs (Ev.neg (by decide) (Ev.now _))
   ·unfold bf.f
    rw [CX h a ha, if_neg hw]
    exact Ev.bs (Ev.neg (by decide) (Ev.now _))
theorem wP (f a : Int) (h0 : 0 ≤ a) (h1 : a < 18446744073709551616) : ∃ k, dO.f k f a = some true := by
 obtain ⟨v, rfl⟩ := Int.eq_ofNat_of_zero_le h0
 have hv : v < 2 ^ 64 := by have : (2 : Nat) ^ 64 = 18446744073709551616 := (by decide); omega
 obtain ⟨r, r1, r2⟩ := FI f hv
 obtain ⟨s, w1, w2⟩ := NQ f hv
 have h : Ev (fun k => dO.f k f (v : Int)) true := by
  unfold dO.f
  refine Ev.bind r1 (Ev.bind r2 (Ev.bind LQ (Ev.pos rfl (Ev.pos (by simp) (Ev.neg (by simp) (Ev.bind w1 (Ev.bind w2 (Ev.pos (by simp) ?_))))))))
  rw [show (s.2 == s.2) = true by simp]
  exact Ev.now _
 exact h.rounds
end Go.Proofs.YtafikkmnkeddpaaGreatDoor.P
set_option maxRecDepth 100000
namespace Go.Proofs.YtafikkmnkeddpaaGreatDoor.P
open Go.RowKit Go.Proofs.YtafikkmnkeddpaaGreatDoorW.PrintWords Go.Proofs.YtafikkmnkeddpaaGreatDoorW.PrintLast Go.Proofs.YtafikkmnkeddpaaGreatDoorW.PrintMore Go.Proofs.YtafikkmnkeddpaaGreatDoor.E Go.Proofs.Tryz
def tys : List (TypeId × TI) := [(3, .int .i64), (4, .bool), (5, .int .u8), (9, .str), (22, .int .u64), (33, .int .i16), (35, .st [.v (.int .i64 0), .v (.int .i64 0), .v (.int .u64 0), .v (.int .i16 0), .v (.int .u8 0), .v (.int .u8 0)] [(0, 1, false), (1, 1, false), (2, 1, false), (3, 1, false), (4, 1, false), (5, 1, false)]), (53, .st [.v (.int .i64 0), .v (.int .i64 0), .v (.int .u64 0), .v (.int .i64 0)] [(0, 1, false), (1, 1, false), (2, 1, false), (3, 1, false)]), (61, .int .u64), (64, .sl 5 .u8 1), (73, .sl 22 .u64 8), (88, .st [.v (.int .i64 0), .v (.int .i64 0), .v (.int .i64 0), .v (.int .i64 0)] [(0, 1, false), (1, 1, false), (2, 1, false), (3, 1, false)]), (93, .st [.v (.bool false), .v (.string (⟨#[]⟩ : ByteArray)), .v (.string (⟨#[]⟩ : ByteArray)), .v (.int .i64 0)] [(0, 1, false), (1, 1, false), (2, 1, false), (3, 1, false)]), (104, .st [.v (.bool false), .v (.bool false), .v (.bool false), .v (.string (⟨#[]⟩ : ByteArray)), .v (.int .i64 0)] [(0, 1, false), (1, 1, false), (2, 1, false), (3, 1, false), (4, 1, false)]), (111, .st [.v (.bool false), .s .u64, .s .u64, .v (.int .i64 0)] [(0, 1, false), (1, 1, false), (2, 1, false), (3, 1, false)]), (118, .st [.v (.bool false), .v (.int .u64 0), .v (.int .i64 0), .v (.int .u64 0)] [(0, 1, false), (1, 1, false), (2, 1, false), (3, 1, false)]), (197, .st [.v (.bool false), .s .u64, .v (.int .i64 0), .v (.bool false)] [(0, 1, false), (1, 1, false), (2, 1, false), (3, 1, false)]), (201, .st [.v (.int .i64 0), .v (.int .i64 0), .v (.int .i64 0), .v (.int .i64 0)] [(0, 1, false), (1, 1, false), (2, 1, false), (3, 1, false)])]
theorem ty3 : nI prog 3 (match lk 3 tys with | some i => i | none => .bool) := ⟨by kernel_rfl, by kernel_rfl⟩
theorem ty4 : nI prog 4 (match lk 4 tys with | some i => i | none => .bool) := ⟨by kernel_rfl, by kernel_rfl⟩
theorem ty5 : nI prog 5 (match lk 5 tys with | some i => i | none => .bool) := ⟨by kernel_rfl, by kernel_rfl⟩
theorem ty9 : nI prog 9 (match lk 9 tys with | some i => i | none => .bool) := ⟨by kernel_rfl, by kernel_rfl⟩
theorem Ux : nI prog 22 (match lk 22 tys with | some i => i | none => .bool) := ⟨by kernel_rfl, by kernel_rfl⟩
theorem Uy : nI prog 33 (match lk 33 tys with | some i => i | none => .bool) := ⟨by kernel_rfl, by kernel_rfl⟩
theorem Uz : nI prog 35 (match lk 35 tys with | some i => i | none => .bool) := ⟨_, underlying35, by kernel_rfl, by kernel_rfl⟩
theorem UA : nI prog 53 (match lk 53 tys with | some i => i | none => .bool) := ⟨_, underlying53, by kernel_rfl, by kernel_rfl⟩
theorem UC : nI prog 61 (match lk 61 tys with | some i => i | none => .bool) := ⟨by kernel_rfl, by kernel_rfl⟩
theorem UD : nI prog 64 (match lk 64 tys with | some i => i | none => .bool) := ⟨by kernel_rfl, by kernel_rfl, by kernel_rfl, by kernel_rfl, by decide⟩
theorem QM : nI prog 73 (match lk 73 tys with | some i => i | none => .bool) := ⟨by kernel_rfl, by kernel_rfl, by kernel_rfl, by kernel_rfl, by decide⟩
theorem Kt : nI prog 88 (match lk 88 tys with | some i => i | none => .bool) := ⟨_, underlying88, by kernel_rfl, by kernel_rfl⟩
theorem UE : nI prog 93 (match lk 93 tys with | some i => i | none => .bool) := ⟨_, underlying93, by kernel_rfl, by kernel_rfl⟩
theorem SQ : nI prog 104 (match lk 104 tys with | some i => i | none => .bool) := ⟨_, underlying104, by kernel_rfl, by kernel_rfl⟩
theorem SS : nI prog 111 (match lk 111 tys with | some i => i | none => .bool) := ⟨_, underlying111, by kernel_rfl, by kernel_rfl⟩
theorem SV : nI prog 118 (match lk 118 tys with | some i => i | none => .bool) := ⟨_, underlying118, by kernel_rfl, by kernel_rfl⟩
theorem SX : nI prog 197 (match lk 197 tys with | some i => i | none => .bool) := ⟨_, underlying197, by kernel_rfl, by kernel_rfl⟩
theorem SY : nI prog 201 (match lk 201 tys with | some i => i | none => .bool) := ⟨_, underlying201, by kernel_rfl, by kernel_rfl⟩
theorem fV : kN prog tys := And.intro ty3 <| And.intro ty4 <| And.intro ty5 <| And.intro ty9 <| And.intro Ux <| And.intro Uy <| And.intro Uz <| And.intro UA <| And.intro UC <| And.intro UD <| And.intro QM <| And.intro Kt <| And.intro UE <| And.intro SQ <| And.intro SS <| And.intro SV <| And.intro SX <| And.intro SY <| trivial
theorem stays : su GOk := ⟨fun w w' h hb => h.below hb⟩
theorem mixed : prog.follows .mixedOrders = true := by kernel_rfl
abbrev AO := jO prog GOk
abbrev FO := Dx prog GOk
def jX.app : List AV → (AV → Option AV) → Option AV := fun l K => match l with
 | [.v (.string z0)] => (jX.f z0).bind fun r => K (.tup [.ro true .u64 r.1, .v (.int .i64 r.2)])
 | _ => none
theorem jX.ok : jO prog GOk 37 jX.app := ⟨⟨f37, func37, by kernel_rfl, by kernel_rfl⟩, fun l args w O K r hG hO hl h => by
 unfold jX.app at h
 split at h
 ·rename_i z0
  obtain ⟨y, hy, hK⟩ := Option.bind_eq_some_iff.1 h
  obtain ⟨v0, us0, rfl, h0, hl0⟩ := eF hl
  obtain rfl := jA h0
  obtain rfl := iZ hl0
  refine ⟨_, hK, (jX.calls z0 y.1 y.2 w hy).mono ?_⟩
  rintro e w' ⟨v0_, rfl, hR0, hb⟩
  exact ⟨_, rfl, (.tup _ _ (.cons _ _ _ _ (lV hR0 hO) (.cons _ _ _ _ (.v _) .nil))), hb⟩
 ·cases h⟩
def dn.app : List AV → (AV → Option AV) → Option AV := fun l K => match l with
 | [.v (.int .i64 z0)] => (dn.f z0).bind fun r => K (.tup [.agg [.v (.int .i64 r.1), .v (.int .i64 r.2.1), .v (.int .i64 r.2.2.1), .v (.int .i64 r.2.2.2.1)], .v (.int .i64 r.2.2.2.2)])
 | _ => none
theorem dn.ok : jO prog GOk 52 dn.app := ⟨⟨f52, func52, by kernel_rfl, by kernel_rfl⟩, fun l args w O K r hG hO hl h => by
 unfold dn.app at h
 split at h
 ·rename_i z0
  obtain ⟨y, hy, hK⟩ := Option.bind_eq_some_iff.1 h
  obtain ⟨v0, us0, rfl, h0, hl0⟩ := eF hl
  obtain rfl := jA h0
  obtain rfl := iZ hl0
  refine ⟨_, hK, (dn.calls z0 y.1 y.2.1 y.2.2.1 y.2.2.2.1 y.2.2.2.2 w hG hy).mono ?_⟩
  rintro e w' ⟨rfl, hb⟩
  exact ⟨_, rfl, (.tup _ _ (.cons _ _ _ _ (.agg _ _ (.cons _ _ _ _ (.v _) (.cons _ _ _ _ (.v _) (.cons _ _ _ _ (.v _) (.cons _ _ _ _ (.v _) .nil))))) (.cons _ _ _ _ (.v _) .nil))), hb⟩
 ·cases h⟩
def iR.app : List AV → (AV → Option AV) → Option AV := fun l K => match l with
 | [.v (.string z0)] => (iR.f z0).bind fun r => K (.v (.string r))
 | _ => none
theorem iR.ok : jO prog GOk 128 iR.app := ⟨⟨f128, func128, by kernel_rfl, by kernel_rfl⟩, fun l args w O K r hG hO hl h => by
 unfold iR.app at h
 split at h
 ·rename_i z0
  obtain ⟨y, hy, hK⟩ := Option.bind_eq_some_iff.1 h
  obtain ⟨v0, us0, rfl, h0, hl0⟩ := eF hl
  obtain rfl := jA h0
  obtain rfl := iZ hl0
  refine ⟨_, hK, (iR.calls z0 y w hG hy).mono ?_⟩
  rintro e w' ⟨rfl, hb⟩
  exact ⟨_, rfl, (.v _), hb⟩
 ·cases h⟩
def iK.app : List AV → (AV → Option AV) → Option AV := fun l K => match l with
 | [.v (.string z0), .v (.string z1)] => (iK.f z0 z1).bind fun r => K (.v (.string r))
 | _ => none
theorem iK.ok : jO prog GOk 55 iK.app := ⟨⟨f55, func55, by kernel_rfl, by kernel_rfl⟩, fun l args w O K r hG hO hl h => by
 unfold iK.app at h
 split at h
 ·rename_i z0 z1
  obtain ⟨y, hy, hK⟩ := Option.bind_eq_some_iff.1 h
  obtain ⟨v0, us0, rfl, h0, hl0⟩ := eF hl
  obtain rfl := jA h0
  obtain ⟨v1, us1, rfl, h1, hl1⟩ := eF hl0
  obtain rfl := jA h1
  obtain rfl := iZ hl1
  refine ⟨_, hK, (iK.calls z0 z1 y w hy).mono ?_⟩
  rintro e w' ⟨rfl, hb⟩
  exact ⟨_, rfl, (.v _), hb.below⟩
 ·cases h⟩
def gV.app : List AV → (AV → Option AV) → Option AV := fun l K => match l with
 | [.v (.int .i64 z0), .v (.bool z1)] => (gV.f z0 z1).bind fun r => K (.tup [.v (.int .u64 r.1), .v (.int .i64 r.2)])
 | _ => none
theorem gV.ok : jO prog GOk 56 gV.app := ⟨⟨f56, func56, by kernel_rfl, by kernel_rfl⟩, fun l args w O K r hG hO hl h => by
 unfold gV.app at h
 split at h
 ·rename_i z0 z1
  obtain ⟨y, hy, hK⟩ := Option.bind_eq_some_iff.1 h
  obtain ⟨v0, us0, rfl, h0, hl0⟩ := eF hl
  obtain rfl := jA h0
  obtain ⟨v1, us1, rfl, h1, hl1⟩ := eF hl0
  obtain rfl := jA h1
  obtain rfl := iZ hl1
  refine ⟨_, hK, (gV.calls z0 z1 y.1 y.2 w hG hy).mono ?_⟩
  rintro e w' ⟨rfl, hb⟩
  exact ⟨_, rfl, (.tup _ _ (.cons _ _ _ _ (.v _) (.cons _ _ _ _ (.v _) .nil))), hb⟩
 ·cases h⟩
def jQ.app : List AV → (AV → Option AV) → Option AV := fun l K => match l with
 | [.v (.int .i64 z0)] => (jQ.f z0).bind fun r => K (.tup [.v (.int .u64 r.1), .v (.int .i64 r.2)])
 | _ => none
theorem jQ.ok : jO prog GOk 57 jQ.app := ⟨⟨f57, func57, by kernel_rfl, by kernel_rfl⟩, fun l args w O K r hG hO hl h => by
 unfold jQ.app at h
 split at h
 ·rename_i z0
  obtain ⟨y, hy, hK⟩ := Option.bind_eq_some_iff.1 h
  obtain ⟨v0, us0, rfl, h0, hl0⟩ := eF hl
  obtain rfl := jA h0
  obtain rfl := iZ hl0
  refine ⟨_, hK, (jQ.calls z0 y.1 y.2 w hG hy).mono ?_⟩
  rintro e w' ⟨rfl, hb⟩
  exact ⟨_, rfl, (.tup _ _ (.cons _ _ _ _ (.v _) (.cons _ _ _ _ (.v _) .nil))), hb⟩
 ·cases h⟩
def jc.app : List AV → (AV → Option AV) → Option AV := fun l K => match l with
 | [.v (.int .i64 z0), .v (.bool z1)] => (jc.f z0 z1).bind fun r => K (.tup [.v (.int .u64 r.1), .v (.int .i64 r.2)])
 | _ => none
theorem jc.ok : jO prog GOk 58 jc.app := ⟨⟨f58, func58, by kernel_rfl, by kernel_rfl⟩, fun l args w O K r hG hO hl h => by
 unfold jc.app at h
 split at h
 ·rename_i z0 z1
  obtain ⟨y, hy, hK⟩ := Option.bind_eq_some_iff.1 h
  obtain ⟨v0, us0, rfl, h0, hl0⟩ := eF hl
  obtain rfl := jA h0
  obtain ⟨v1, us1, rfl, h1, hl1⟩ := eF hl0
  obtain rfl := jA h1
  obtain rfl := iZ hl1
  refine ⟨_, hK, (jc.calls z0 z1 y.1 y.2 w hG hy).mono ?_⟩
  rintro e w' ⟨rfl, hb⟩
  exact ⟨_, rfl, (.tup _ _ (.cons _ _ _ _ (.v _) (.cons _ _ _ _ (.v _) .nil))), hb⟩
 ·cases h⟩
def kE.app : List AV → (AV → Option AV) → Option AV := fun l K => match l with
 | [.ro false .u64 z0] => (kE.f z0).bind fun r => K (.ro true .u64 r)
 | _ => none
theorem kE.ok : jO prog GOk 140 kE.app := ⟨⟨f140, func140, by kernel_rfl, by kernel_rfl⟩, fun l args w O K r hG hO hl h => by
 unfold kE.app at h
 split at h
 ·rename_i z0
  obtain ⟨y, hy, hK⟩ := Option.bind_eq_some_iff.1 h
  obtain ⟨v0, us0, rfl, h0, hl0⟩ := eF hl
  obtain ⟨A0, c0, rfl, hr0, hc0⟩ := kC h0
  obtain rfl := iZ hl0
  refine ⟨_, hK, (kE.calls A0 c0 z0 y w hr0 hc0 hy).mono ?_⟩
  rintro e w' ⟨v0_, rfl, hR0, hb⟩
  exact ⟨_, rfl, (lV hR0 hO), hb⟩
 ·cases h⟩
def ig.app : List AV → (AV → Option AV) → Option AV := fun l K => match l with
 | [.ro false .u64 z0, .v (.int .i64 z1)] => (ig.f z0 z1).bind fun r => K (.tup [.ro true .u64 r.1, .v (.int .i64 r.2)])
 | _ => none
theorem ig.ok : jO prog GOk 89 ig.app := ⟨⟨f89, func89, by kernel_rfl, by kernel_rfl⟩, fun l args w O K r hG hO hl h => by
 unfold ig.app at h
 split at h
 ·rename_i z0 z1
  obtain ⟨y, hy, hK⟩ := Option.bind_eq_some_iff.1 h
  obtain ⟨v0, us0, rfl, h0, hl0⟩ := eF hl
  obtain ⟨A0, c0, rfl, hr0, hc0⟩ := kC h0
  obtain ⟨v1, us1, rfl, h1, hl1⟩ := eF hl0
  obtain rfl := jA h1
  obtain rfl := iZ hl1
  refine ⟨_, hK, (ig.calls A0 c0 z0 z1 y.1 y.2 w hr0 hc0 hy).mono ?_⟩
  rintro e w' ⟨v0_, rfl, hR0, hb⟩
  exact ⟨_, rfl, (.tup _ _ (.cons _ _ _ _ (lV hR0 hO) (.cons _ _ _ _ (.v _) .nil))), hb⟩
 ·cases h⟩
def jf.app : List AV → (AV → Option AV) → Option AV := fun l K => match l with
 | [.ro false .u64 z0, .ro false .u64 z1] => (jf.f z0 z1).bind fun r => K (.tup [.ro true .u64 r.1, .ro true .u64 r.2.1, .v (.int .i64 r.2.2)])
 | _ => none
theorem jf.ok : jO prog GOk 101 jf.app := ⟨⟨f101, func101, by kernel_rfl, by kernel_rfl⟩, fun l args w O K r hG hO hl h => by
 unfold jf.app at h
 split at h
 ·rename_i z0 z1
  obtain ⟨y, hy, hK⟩ := Option.bind_eq_some_iff.1 h
  obtain ⟨v0, us0, rfl, h0, hl0⟩ := eF hl
  obtain ⟨A0, c0, rfl, hr0, hc0⟩ := kC h0
  obtain ⟨v1, us1, rfl, h1, hl1⟩ := eF hl0
  obtain ⟨A1, c1, rfl, hr1, hc1⟩ := kC h1
  obtain rfl := iZ hl1
  refine ⟨_, hK, (jf.calls A0 c0 z0 A1 c1 z1 y.1 y.2.1 y.2.2 w hr0 hc0 hr1 hc1 hy).mono ?_⟩
  rintro e w' ⟨v0_, v1_, rfl, hR0, hR1, hb⟩
  exact ⟨_, rfl, (.tup _ _ (.cons _ _ _ _ (lV hR0 hO) (.cons _ _ _ _ (lV hR1 hO) (.cons _ _ _ _ (.v _) .nil)))), hb⟩
 ·cases h⟩
def jd.app : List AV → (AV → Option AV) → Option AV := fun l K => match l with
 | [.ro false .u64 z0, .ro false .u64 z1] => (jd.f z0 z1).bind fun r => K (.v (.int .i64 r))
 | _ => none
theorem jd.ok : jO prog GOk 103 jd.app := ⟨⟨f103, func103, by kernel_rfl, by kernel_rfl⟩, fun l args w O K r hG hO hl h => by
 unfold jd.app at h
 split at h
 ·rename_i z0 z1
  obtain ⟨y, hy, hK⟩ := Option.bind_eq_some_iff.1 h
  obtain ⟨v0, us0, rfl, h0, hl0⟩ := eF hl
  obtain ⟨A0, c0, rfl, hr0, hc0⟩ := kC h0
  obtain ⟨v1, us1, rfl, h1, hl1⟩ := eF hl0
  obtain ⟨A1, c1, rfl, hr1, hc1⟩ := kC h1
  obtain rfl := iZ hl1
  refine ⟨_, hK, (jd.calls A0 c0 z0 A1 c1 z1 y w hr0 hc0 hr1 hc1 hy).mono ?_⟩
  rintro e w' ⟨rfl, hb⟩
  exact ⟨_, rfl, (.v _), hb.below⟩
 ·cases h⟩
def jE.app : List AV → (AV → Option AV) → Option AV := fun l K => match l with
 | [.ro false .u64 z0, .ro false .u64 z1] => (jE.f z0 z1).bind fun r => K (.ro true .u64 r)
 | _ => none
theorem jE.ok : jO prog GOk 104 jE.app := ⟨⟨f104, func104, by kernel_rfl, by kernel_rfl⟩, fun l args w O K r hG hO hl h => by
 unfold jE.app at h
 split at h
 ·rename_i z0 z1
  obtain ⟨y, hy, hK⟩ := Option.bind_eq_some_iff.1 h
  obtain ⟨v0, us0, rfl, h0, hl0⟩ := eF hl
  obtain ⟨A0, c0, rfl, hr0, hc0⟩ := kC h0
  obtain ⟨v1, us1, rfl, h1, hl1⟩ := eF hl0
  obtain ⟨A1, c1, rfl, hr1, hc1⟩ := kC h1
  obtain rfl := iZ hl1
  refine ⟨_, hK, (jE.calls A0 c0 z0 A1 c1 z1 y w hr0 hc0 hr1 hc1 hy).mono ?_⟩
  rintro e w' ⟨v0_, rfl, hR0, hb⟩
  exact ⟨_, rfl, (lV hR0 hO), hb⟩
 ·cases h⟩
def kV.app : List AV → (AV → Option AV) → Option AV := fun l K => match l with
 | [.ro false .u64 z0, .ro false .u64 z1] => (kV.f z0 z1).bind fun r => K (.tup [.ro true .u64 r.1, .v (.int .i64 r.2)])
 | _ => none
theorem kV.ok : jO prog GOk 160 kV.app := ⟨⟨f160, func160, by kernel_rfl, by kernel_rfl⟩, fun l args w O K r hG hO hl h => by
 unfold kV.app at h
 split at h
 ·rename_i z0 z1
  obtain ⟨y, hy, hK⟩ := Option.bind_eq_some_iff.1 h
  obtain ⟨v0, us0, rfl, h0, hl0⟩ := eF hl
  obtain ⟨A0, c0, rfl, hr0, hc0⟩ := kC h0
  obtain ⟨v1, us1, rfl, h1, hl1⟩ := eF hl0
  obtain ⟨A1, c1, rfl, hr1, hc1⟩ := kC h1
  obtain rfl := iZ hl1
  refine ⟨_, hK, (kV.calls A0 c0 z0 A1 c1 z1 y.1 y.2 w hr0 hc0 hr1 hc1 hy).mono ?_⟩
  rintro e w' ⟨v0_, rfl, hR0, hb⟩
  exact ⟨_, rfl, (.tup _ _ (.cons _ _ _ _ (lV hR0 hO) (.cons _ _ _ _ (.v _) .nil))), hb⟩
 ·cases h⟩
def ji.app : List AV → (AV → Option AV) → Option AV := fun l K => match l with
 | [.ro false .u64 z0] => (ji.f z0).bind fun r => K (.v (.int .i64 r))
 | _ => none
theorem ji.ok : jO prog GOk 182 ji.app := ⟨⟨f182, func182, by kernel_rfl, by kernel_rfl⟩, fun l args w O K r hG hO hl h => by
 unfold ji.app at h
 split at h
 ·rename_i z0
  obtain ⟨y, hy, hK⟩ := Option.bind_eq_some_iff.1 h
  obtain ⟨v0, us0, rfl, h0, hl0⟩ := eF hl
  obtain ⟨A0, c0, rfl, hr0, hc0⟩ := kC h0
  obtain rfl := iZ hl0
  refine ⟨_, hK, (ji.calls A0 c0 z0 y w hr0 hc0 hy).mono ?_⟩
  rintro e w' ⟨rfl, hb⟩
  exact ⟨_, rfl, (.v _), hb.below⟩
 ·cases h⟩
def iM.app : List AV → (AV → Option AV) → Option AV := fun l K => match l with
 | [.v (.int .i64 z0), .v (.bool z1)] => (iM.f z0 z1).bind fun r => K (.tup [.v (.int .u64 r.1), .v (.int .i64 r.2)])
 | _ => none
theorem iM.ok : jO prog GOk 248 iM.app := ⟨⟨f248, func248, by kernel_rfl, by kernel_rfl⟩, fun l args w O K r hG hO hl h => by
 unfold iM.app at h
 split at h
 ·rename_i z0 z1
  obtain ⟨y, hy, hK⟩ := Option.bind_eq_some_iff.1 h
  obtain ⟨v0, us0, rfl, h0, hl0⟩ := eF hl
  obtain rfl := jA h0
  obtain ⟨v1, us1, rfl, h1, hl1⟩ := eF hl0
  obtain rfl := jA h1
  obtain rfl := iZ hl1
  refine ⟨_, hK, (iM.calls z0 z1 y.1 y.2 w hG hy).mono ?_⟩
  rintro e w' ⟨rfl, hb⟩
  exact ⟨_, rfl, (.tup _ _ (.cons _ _ _ _ (.v _) (.cons _ _ _ _ (.v _) .nil))), hb⟩
 ·cases h⟩
def lQ.app : List AV → (AV → Option AV) → Option AV := fun l K => match l with
 | [.ro false .u64 z0, .v (.int .i64 z1)] => (lQ.f z0 z1).bind fun r => K (.tup [.ro true .u64 r.1, .v (.int .i64 r.2)])
 | _ => none
theorem lQ.ok : jO prog GOk 249 lQ.app := ⟨⟨f249, func249, by kernel_rfl, by kernel_rfl⟩, fun l args w O K r hG hO hl h => by
 unfold lQ.app at h
 split at h
 ·rename_i z0 z1
  obtain ⟨y, hy, hK⟩ := Option.bind_eq_some_iff.1 h
  obtain ⟨v0, us0, rfl, h0, hl0⟩ := eF hl
  obtain ⟨A0, c0, rfl, hr0, hc0⟩ := kC h0
  obtain ⟨v1, us1, rfl, h1, hl1⟩ := eF hl0
  obtain rfl := jA h1
  obtain rfl := iZ hl1
  refine ⟨_, hK, (lQ.calls A0 c0 z0 z1 y.1 y.2 w hG hr0 hc0 hy).mono ?_⟩
  rintro e w' ⟨v0_, rfl, hR0, hb⟩
  exact ⟨_, rfl, (.tup _ _ (.cons _ _ _ _ (lV hR0 hO) (.cons _ _ _ _ (.v _) .nil))), hb⟩
 ·cases h⟩
def lS.app : List AV → (AV → Option AV) → Option AV := fun l K => match l with
 | [.ro false .u64 z0, .v (.int .i64 z1)] => (lS.f z0 z1).bind fun r => K (.tup [.ro true .u64 r.1, .v (.int .i64 r.2)])
 | _ => none
theorem lS.ok : jO prog GOk 250 lS.app := ⟨⟨f250, func250, by kernel_rfl, by kernel_rfl⟩, fun l args w O K r hG hO hl h => by
 unfold lS.app at h
 split at h
 ·rename_i z0 z1
  obtain ⟨y, hy, hK⟩ := Option.bind_eq_some_iff.1 h
  obtain ⟨v0, us0, rfl, h0, hl0⟩ := eF hl
  obtain ⟨A0, c0, rfl, hr0, hc0⟩ := kC h0
  obtain ⟨v1, us1, rfl, h1, hl1⟩ := eF hl0
  obtain rfl := jA h1
  obtain rfl := iZ hl1
  refine ⟨_, hK, (lS.calls A0 c0 z0 z1 y.1 y.2 w hr0 hc0 hy).mono ?_⟩
  rintro e w' ⟨v0_, rfl, hR0, hb⟩
  exact ⟨_, rfl, (.tup _ _ (.cons _ _ _ _ (lV hR0 hO) (.cons _ _ _ _ (.v _) .nil))), hb⟩
 ·cases h⟩
def gX.app : List AV → (AV → Option AV) → Option AV := fun l K => match l with
 | [.v (.int .u64 z0), .v (.int .i64 z1)] => (gX.f z0 z1).bind fun r => K (.tup [.ro true .u64 r.1, .v (.int .i64 r.2)])
 | _ => none
theorem gX.ok : jO prog GOk 91 gX.app := ⟨⟨f91, func91, by kernel_rfl, by kernel_rfl⟩, fun l args w O K r hG hO hl h => by
 unfold gX.app at h
 split at h
 ·rename_i z0 z1
  obtain ⟨y, hy, hK⟩ := Option.bind_eq_some_iff.1 h
  obtain ⟨v0, us0, rfl, h0, hl0⟩ := eF hl
  obtain rfl := jA h0
  obtain ⟨v1, us1, rfl, h1, hl1⟩ := eF hl0
  obtain rfl := jA h1
  obtain rfl := iZ hl1
  refine ⟨_, hK, (gX.calls z0 z1 y.1 y.2 w hy).mono ?_⟩
  rintro e w' ⟨v0_, rfl, hR0, hb⟩
  exact ⟨_, rfl, (.tup _ _ (.cons _ _ _ _ (lV hR0 hO) (.cons _ _ _ _ (.v _) .nil))), hb⟩
 ·cases h⟩
def iP.app : List AV → (AV → Option AV) → Option AV := fun l K => match l with
 | [.ro false .u64 z0, .ro false .u64 z1] => (iP.f z0 z1).bind fun r => K (.tup [.ro true .u64 r.1, .v (.int .i64 r.2)])
 | _ => none
theorem iP.ok : jO prog GOk 61 iP.app := ⟨⟨f61, func61, by kernel_rfl, by kernel_rfl⟩, fun l args w O K r hG hO hl h => by
 unfold iP.app at h
 split at h
 ·rename_i z0 z1
  obtain ⟨y, hy, hK⟩ := Option.bind_eq_some_iff.1 h
  obtain ⟨v0, us0, rfl, h0, hl0⟩ := eF hl
  obtain ⟨A0, c0, rfl, hr0, hc0⟩ := kC h0
  obtain ⟨v1, us1, rfl, h1, hl1⟩ := eF hl0
  obtain ⟨A1, c1, rfl, hr1, hc1⟩ := kC h1
  obtain rfl := iZ hl1
  refine ⟨_, hK, (iP.calls A0 c0 z0 A1 c1 z1 y.1 y.2 w hr0 hc0 hr1 hc1 hy).mono ?_⟩
  rintro e w' ⟨v0_, rfl, hR0, hb⟩
  exact ⟨_, rfl, (.tup _ _ (.cons _ _ _ _ (lV hR0 hO) (.cons _ _ _ _ (.v _) .nil))), hb⟩
 ·cases h⟩
def bI.app : List AV → (AV → Option AV) → Option AV := fun l K => match l with
 | [.ro false .u64 z0] => (bI.f z0).bind fun r => K (.ro true .u64 r)
 | _ => none
theorem bI.ok : jO prog GOk 154 bI.app := ⟨⟨f154, func154, by kernel_rfl, by kernel_rfl⟩, fun l args w O K r hG hO hl h => by
 unfold bI.app at h
 split at h
 ·rename_i z0
  obtain ⟨y, hy, hK⟩ := Option.bind_eq_some_iff.1 h
  obtain ⟨v0, us0, rfl, h0, hl0⟩ := eF hl
  obtain ⟨A0, c0, rfl, hr0, hc0⟩ := kC h0
  obtain rfl := iZ hl0
  refine ⟨_, hK, (bI.calls A0 c0 z0 y w hr0 hc0 hy).mono ?_⟩
  rintro e w' ⟨v0_, rfl, hR0, hb⟩
  exact ⟨_, rfl, (lV hR0 hO), hb⟩
 ·cases h⟩
def jk.app : List AV → (AV → Option AV) → Option AV := fun l K => match l with
 | [.v (.int .i64 z0), .v (.int .u64 z1)] => (jk.f z0 z1).bind fun r => K (.tup [.v (.int .i64 r.1), .v (.int .i64 r.2)])
 | _ => none
theorem jk.ok : jO prog GOk 117 jk.app := ⟨⟨f117, func117, by kernel_rfl, by kernel_rfl⟩, fun l args w O K r hG hO hl h => by
 unfold jk.app at h
 split at h
 ·rename_i z0 z1
  obtain ⟨y, hy, hK⟩ := Option.bind_eq_some_iff.1 h
  obtain ⟨v0, us0, rfl, h0, hl0⟩ := eF hl
  obtain rfl := jA h0
  obtain ⟨v1, us1, rfl, h1, hl1⟩ := eF hl0
  obtain rfl := jA h1
  obtain rfl := iZ hl1
  refine ⟨_, hK, (jk.calls z0 z1 y.1 y.2 w hG hy).mono ?_⟩
  rintro e w' ⟨rfl, hb⟩
  exact ⟨_, rfl, (.tup _ _ (.cons _ _ _ _ (.v _) (.cons _ _ _ _ (.v _) .nil))), hb⟩
 ·cases h⟩
def iW.app : List AV → (AV → Option AV) → Option AV := fun l K => match l with
 | [.v (.int .i64 z0), .v (.int .u64 z1)] => (iW.f z0 z1).bind fun r => K (.tup [.v (.bool r.1), .v (.int .u64 r.2.1), .v (.int .u64 r.2.2.1), .v (.int .i64 r.2.2.2)])
 | _ => none
theorem iW.ok : jO prog GOk 118 iW.app := ⟨⟨f118, func118, by kernel_rfl, by kernel_rfl⟩, fun l args w O K r hG hO hl h => by
 unfold iW.app at h
 split at h
 ·rename_i z0 z1
  obtain ⟨y, hy, hK⟩ := Option.bind_eq_some_iff.1 h
  obtain ⟨v0, us0, rfl, h0, hl0⟩ := eF hl
  obtain rfl := jA h0
  obtain ⟨v1, us1, rfl, h1, hl1⟩ := eF hl0
  obtain rfl := jA h1
  obtain rfl := iZ hl1
  refine ⟨_, hK, (iW.calls z0 z1 y.1 y.2.1 y.2.2.1 y.2.2.2 w hG hy).mono ?_⟩
  rintro e w' ⟨rfl, hb⟩
  exact ⟨_, rfl, (.tup _ _ (.cons _ _ _ _ (.v _) (.cons _ _ _ _ (.v _) (.cons _ _ _ _ (.v _) (.cons _ _ _ _ (.v _) .nil))))), hb⟩
 ·cases h⟩
def gI.app : List AV → (AV → Option AV) → Option AV := fun l K => match l with
 | [.agg [.v (.bool z0), .v (.int .u64 z1), .v (.int .i64 z2), .v (.int .u64 z3)]] => (gI.f z0 z1 z2 z3).bind fun r => K (.tup [.v (.string r.1), .v (.int .i64 r.2)])
 | _ => none
theorem gI.ok : jO prog GOk 75 gI.app := ⟨⟨f75, func75, by kernel_rfl, by kernel_rfl⟩, fun l args w O K r hG hO hl h => by
 unfold gI.app at h
 split at h
 ·rename_i z0 z1 z2 z3
  obtain ⟨y, hy, hK⟩ := Option.bind_eq_some_iff.1 h
  obtain ⟨v0, us0, rfl, h0, hl0⟩ := eF hl
  obtain ⟨ws, rfl, hs⟩ := Rh h0
  obtain ⟨u0, ws0, rfl, g0, hs0⟩ := eF hs
  obtain rfl := jA g0
  obtain ⟨u1, ws1, rfl, g1, hs1⟩ := eF hs0
  obtain rfl := jA g1
  obtain ⟨u2, ws2, rfl, g2, hs2⟩ := eF hs1
  obtain rfl := jA g2
  obtain ⟨u3, ws3, rfl, g3, hs3⟩ := eF hs2
  obtain rfl := jA g3
  obtain rfl := iZ hs3
  obtain rfl := iZ hl0
  refine ⟨_, hK, (gI.calls z0 z1 z2 z3 y.1 y.2 w hG hy).mono ?_⟩
  rintro e w' ⟨rfl, hb⟩
  exact ⟨_, rfl, (.tup _ _ (.cons _ _ _ _ (.v _) (.cons _ _ _ _ (.v _) .nil))), hb⟩
 ·cases h⟩
def strings_Repeat.app : List AV → (AV → Option AV) → Option AV := fun l K => match l with
 | [.v (.string z0), .v (.int .i64 z1)] => (strings_Repeat.f z0 z1).bind fun r => K (.v (.string r))
 | _ => none
theorem strings_Repeat.ok : jO prog GOk 92 strings_Repeat.app := ⟨⟨f92, func92, by kernel_rfl, by kernel_rfl⟩, fun l args w O K r hG hO hl h => by
 unfold strings_Repeat.app at h
 split at h
 ·rename_i z0 z1
  obtain ⟨y, hy, hK⟩ := Option.bind_eq_some_iff.1 h
  obtain ⟨v0, us0, rfl, h0, hl0⟩ := eF hl
  obtain rfl := jA h0
  obtain ⟨v1, us1, rfl, h1, hl1⟩ := eF hl0
  obtain rfl := jA h1
  obtain rfl := iZ hl1
  refine ⟨_, hK, (strings_Repeat.calls z0 z1 y w hy).mono ?_⟩
  rintro e w' ⟨rfl, hb⟩
  exact ⟨_, rfl, (.v _), hb⟩
 ·cases h⟩
def strconv_Itoa.app : List AV → (AV → Option AV) → Option AV := fun l K => match l with
 | [.v (.int .i64 z0)] => (strconv_Itoa.f z0).bind fun r => K (.v (.string r))
 | _ => none
theorem strconv_Itoa.ok : jO prog GOk 120 strconv_Itoa.app := ⟨⟨f120, func120, by kernel_rfl, by kernel_rfl⟩, fun l args w O K r hG hO hl h => by
 unfold strconv_Itoa.app at h
 split at h
 ·rename_i z0
  obtain ⟨y, hy, hK⟩ := Option.bind_eq_some_iff.1 h
  obtain ⟨v0, us0, rfl, h0, hl0⟩ := eF hl
  obtain rfl := jA h0
  obtain rfl := iZ hl0
  refine ⟨_, hK, (strconv_Itoa.calls z0 y w hG hy).mono ?_⟩
  rintro e w' ⟨rfl, hb⟩
  exact ⟨_, rfl, (.v _), hb⟩
 ·cases h⟩
def qy.app : List AV → (AV → Option AV) → Option AV := fun l K => match l with
 | [.v (.int .i64 z0)] => (qy.f z0).bind fun r => K (.v (.int .u64 r))
 | _ => none
def dG.app : List AV → (AV → Option AV) → Option AV := fun l K => match l with
 | [.ro false .u64 z0] => (dG.f z0).bind fun r => K (.tup [.v (.string r.1), .v (.int .i64 r.2)])
 | _ => none
theorem dG.ok : jO prog GOk 90 dG.app := ⟨⟨f90, func90, by kernel_rfl, by kernel_rfl⟩, fun l args w O K r hG hO hl h => by
 unfold dG.app at h
 split at h
 ·rename_i z0
  obtain ⟨y, hy, hK⟩ := Option.bind_eq_some_iff.1 h
  obtain ⟨v0, us0, rfl, h0, hl0⟩ := eF hl
  obtain ⟨A0, c0, rfl, hr0, hc0⟩ := kC h0
  obtain rfl := iZ hl0
  refine ⟨_, hK, (dG.calls A0 c0 z0 y.1 y.2 w hr0 hc0 hy).mono ?_⟩
  rintro e w' ⟨rfl, hb⟩
  exact ⟨_, rfl, (.tup _ _ (.cons _ _ _ _ (.v _) (.cons _ _ _ _ (.v _) .nil))), hb⟩
 ·cases h⟩
def strings_HasSuffix.app : List AV → (AV → Option AV) → Option AV := fun l K => match l with
 | [.v (.string z0), .v (.string z1)] => (strings_HasSuffix.f z0 z1).bind fun r => K (.v (.bool r))
 | _ => none
def jC.app : List AV → (AV → Option AV) → Option AV := fun l K => match l with
 | [.agg [.v (.bool z0), .v (.int .u64 z1), .v (.int .i64 z2), .v (.int .u64 z3)]] => (jC.f z0 z1 z2 z3).bind fun r => K (.v (.int .i64 r))
 | _ => none
def fZ.app : List AV → (AV → Option AV) → Option AV := fun l K => match l with
 | [.v (.string z0), .v (.string z1)] => (fZ.f z0 z1).bind fun r => K (.v (.string r))
 | _ => none
theorem fZ.ok : jO prog GOk 93 fZ.app := ⟨⟨f93, func93, by kernel_rfl, by kernel_rfl⟩, fun l args w O K r hG hO hl h => by
 unfold fZ.app at h
 split at h
 ·rename_i z0 z1
  obtain ⟨y, hy, hK⟩ := Option.bind_eq_some_iff.1 h
  obtain ⟨v0, us0, rfl, h0, hl0⟩ := eF hl
  obtain rfl := jA h0
  obtain ⟨v1, us1, rfl, h1, hl1⟩ := eF hl0
  obtain rfl := jA h1
  obtain rfl := iZ hl1
  refine ⟨_, hK, (fZ.calls z0 z1 y w hy).mono ?_⟩
  rintro e w' ⟨rfl, hb⟩
  exact ⟨_, rfl, (.v _), hb.below⟩
 ·cases h⟩
end Go.Proofs.YtafikkmnkeddpaaGreatDoor.P
set_option maxRecDepth 100000
namespace Go.Proofs.YtafikkmnkeddpaaGreatDoor.P
open Go.RowKit Go.Proofs.YtafikkmnkeddpaaGreatDoorW.PrintWords Go.Proofs.YtafikkmnkeddpaaGreatDoorW.PrintLast Go.Proofs.YtafikkmnkeddpaaGreatDoorW.PrintMore Go.Proofs.YtafikkmnkeddpaaGreatDoor.E Go.Proofs.Tryz
def iy.enc (r : Bool) : AV := .v (.bool r)
def iy.app : List AV → (AV → Option AV) → Option AV := fun l K => match l with
 | [.v (.int .i64 a)] => (iy.f a).bind fun r => K (iy.enc r)
 | _ => none
def iy.E : Env := ⟨9, tys, [], [], [], false, [4], false⟩
theorem iy.fok : FO 53 f53 (dF f53) (iy.E) := fo fV func53 trivial
theorem iy.ok : AO 53 (iy.app) := eX stays mixed (iy.fok) (dX rfl) fun l K r h => by
 dsimp only [iy.app] at h
 split at h
 ·rename_i a
  exact fin (enc := iy.enc) h rfl fun y h => by
   exact via (if (decide (a ≥ 0)) then some (bA (decide (a ≤ 5))) else some (bA false)) (by rw [iy.f] at h; exact Eq.trans (Eq.symm mt2) h)
 ·cases h
def iC.enc (r : Bool) : AV := .v (.bool r)
def iC.app : List AV → (AV → Option AV) → Option AV := fun l K => match l with
 | [.v (.int .u8 a)] => (iC.f a).bind fun r => K (iC.enc r)
 | _ => none
def iC.E : Env := ⟨9, tys, [], [], [], false, [4], false⟩
theorem iC.fok : FO 129 f129 (dF f129) (iC.E) := fo fV func129 trivial
theorem iC.ok : AO 129 (iC.app) := eX stays mixed (iC.fok) (dX rfl) fun l K r h => by
 dsimp only [iC.app] at h
 split at h
 ·rename_i a
  exact fin (enc := iC.enc) h rfl fun y h => by
   exact via (if (decide (a ≥ 48)) then some (bA (decide (a ≤ 57))) else some (bA false)) (by rw [iC.f] at h; exact Eq.trans (Eq.symm mt2) h)
 ·cases h
def aJ.enc (r : Int × Bool) : AV := .tup [.v (.int .i64 r.1), .v (.bool r.2)]
def aJ.app (k : Nat) : List AV → (AV → Option AV) → Option AV := fun l K => match l with
 | [.v (.string a)] => (aJ.f k a).bind fun r => K (aJ.enc r)
 | _ => none
def aJ.p0 (k : Nat) : Pt := ⟨[.c [1, 1, 1, 1, 0, 0], .c [1, 1, 1, 1, 0, 1], .c [1, 1, 1, 1, 1]], [(0, none, []), (2, none, []), (4, none, [])], [], [], [], fun s => match s with
 | ⟨[(0, .v (.string a)), (2, .v (.int .i64 b)), (4, .v (.bool c))], []⟩ => (aJ.j1 k a b c).map aJ.enc
 | _ => none⟩
def aJ.p1 (k : Nat) : Pt := ⟨[.c [1, 1, 1, 1, 1, 0, 0], .c [1, 1, 1, 1, 1, 0, 1], .c [1, 1, 1, 1, 1, 1]], [(0, none, []), (2, none, []), (4, none, [])], [], [], [], fun s => match s with
 | ⟨[(0, .v (.string a)), (2, .v (.int .i64 b)), (4, .v (.bool c))], []⟩ => (aJ.j3 k a b c).map aJ.enc
 | _ => none⟩
def aJ.p2 (k : Nat) : Pt := ⟨[.c [1, 1, 1, 1, 1, 1, 0, 1, 0, 0, 0], .c [1, 1, 1, 1, 1, 1, 0, 1, 0, 0, 1], .l [1, 1, 1, 1, 1, 1, 0, 1, 0, 0], .b 0, .c [1, 1, 1, 1, 1, 1, 1]], [(0, none, []), (2, none, []), (4, none, []), (38, none, []), (39, none, [])], [], [], [], fun s => match s with
 | ⟨[(0, .v (.string a)), (2, .v (.int .i64 b)), (4, .v (.bool c)), (38, .v (.int .i64 d)), (39, .v (.int .i64 e))], []⟩ => (aJ.l0 k a b c d e).map aJ.enc
 | _ => none⟩
def aJ.p3 (k : Nat) : Pt := ⟨[.c [1, 0, 1], .c [1, 1]], [(0, none, []), (2, none, []), (13, none, [])], [], [], [], fun s => match s with
 | ⟨[(0, .v (.string a)), (2, .v (.int .i64 b)), (13, .v (.bool c))], []⟩ => (aJ.j0 k a b c).map aJ.enc
 | _ => none⟩
def aJ.p4 (k : Nat) : Pt := ⟨[.c [1, 1, 1, 1, 0, 1], .c [1, 1, 1, 1, 1]], [(0, none, []), (2, none, []), (4, none, []), (32, none, [])], [], [], [], fun s => match s with
 | ⟨[(0, .v (.string a)), (2, .v (.int .i64 b)), (4, .v (.bool c)), (32, .v (.bool d))], []⟩ => (aJ.j2 k a b c d).map aJ.enc
 | _ => none⟩
def aJ.E (k : Nat) : Env := ⟨61, tys, [(129, iC.app)], [(5, aJ.p0 k), (7, aJ.p1 k), (10, aJ.p2 k), (100013, aJ.p3 k), (100032, aJ.p4 k)], [], false, [3, 4], false⟩
theorem aJ.fok (k : Nat) : FO 130 f130 (dF f130) (aJ.E k) := fo fV func130 ⟨iC.ok, trivial⟩
theorem aJ.s0 : jM f130 aJ.E aJ.p0 := fun k s r h => by
 dsimp only [aJ.p0] at h
 split at h
 ·rename_i a b c
  rcases k with _ | k
  ·cases h
  exact ⟨k, rfl, via (if c = false then if (a.toList != (⟨#[]⟩ : ByteArray).toList) then if (0 : Int) ≤ 0 then if 0 < (a.size : Int) then (aJ.j2 k a b c ((bt a 0) == 43)).map aJ.enc else none else none else (aJ.j2 k a b c false).map aJ.enc else (aJ.j2 k a b c true).map aJ.enc) (by rw [aJ.j1] at h; exact Eq.trans (Eq.symm mt2) h)⟩
 ·cases h
theorem aJ.s1 : jM f130 aJ.E aJ.p1 := fun k s r h => by
 dsimp only [aJ.p1] at h
 split at h
 ·rename_i a b c
  rcases k with _ | k
  ·cases h
  exact ⟨k, rfl, via (if (a.toList == (⟨#[]⟩ : ByteArray).toList) then some (.tup [iA 0, bA false]) else (aJ.l0 k a b c (a.size : Int) 0).map aJ.enc) (by rw [aJ.j3] at h; exact Eq.trans (Eq.symm mt2) h)⟩
 ·cases h
theorem aJ.s2 : jM f130 aJ.E aJ.p2 := fun k s r h => by
 dsimp only [aJ.p2] at h
 split at h
 ·rename_i a b c d e
  rcases k with _ | k
  ·cases h
  exact ⟨k, rfl, via (if (decide (e < d)) then if 0 ≤ e then if e < (a.size : Int) then (iC.f (bt a e)).bind fun f => if (!f) then some (.tup [iA 0, bA false]) else if 0 ≤ e then if e < (a.size : Int) then (aJ.l0 k a (mn (wrap64 ((wrap64 (10 * b)) + (wrap64 (((bt a e) - 48) % 256)))) 1048576) c d (wrap64 (e + 1))).map aJ.enc else none else none else none else none else if c then some (.tup [iA (wrap64 (-b)), bA true]) else some (.tup [iA b, bA true])) (by rw [aJ.l0] at h; exact Eq.trans (Eq.symm mt2) h)⟩
 ·cases h
theorem aJ.s3 : jM f130 aJ.E aJ.p3 := fun k s r h => by
 dsimp only [aJ.p3] at h
 split at h
 ·rename_i a b c
  rcases k with _ | k
  ·cases h
  exact ⟨k, rfl, via (if c then some (.tup [iA 0, bA false]) else if (0 : Int) ≤ 1 then if 1 ≤ (a.size : Int) then if ((a.extract (1 : Int).toNat ((a.size : Int) : Int).toNat).toList != (⟨#[]⟩ : ByteArray).toList) then if (0 : Int) ≤ 0 then if 0 < ((a.extract (1 : Int).toNat ((a.size : Int) : Int).toNat).size : Int) then (aJ.j1 k (a.extract (1 : Int).toNat ((a.size : Int) : Int).toNat) b ((bt (a.extract (1 : Int).toNat ((a.size : Int) : Int).toNat) 0) == 45)).map aJ.enc else none else none else (aJ.j1 k (a.extract (1 : Int).toNat ((a.size : Int) : Int).toNat) b false).map aJ.enc else none else none) (by rw [aJ.j0] at h; exact Eq.trans (Eq.symm mt2) h)⟩
 ·cases h
theorem aJ.s4 : jM f130 aJ.E aJ.p4 := fun k s r h => by
 dsimp only [aJ.p4] at h
 split at h
 ·rename_i a b c d
  rcases k with _ | k
  ·cases h
  exact ⟨k, rfl, via (if d then if (0 : Int) ≤ 1 then if 1 ≤ (a.size : Int) then (aJ.j3 k (a.extract (1 : Int).toNat ((a.size : Int) : Int).toNat) b c).map aJ.enc else none else none else (aJ.j3 k a b c).map aJ.enc) (by rw [aJ.j2] at h; exact Eq.trans (Eq.symm mt2) h)⟩
 ·cases h
theorem aJ.pts : ∀ k, jI prog (dF f130) (aJ.E k) GOk (Fin prog f130) := je stays mixed aJ.fok [(5, aJ.p0), (7, aJ.p1), (10, aJ.p2), (100013, aJ.p3), (100032, aJ.p4)] ⟨aJ.s0, aJ.s1, aJ.s2, aJ.s3, aJ.s4, trivial⟩
theorem aJ.ok (k : Nat) : AO 130 (aJ.app k) := eX stays mixed (aJ.fok k) (aJ.pts k) fun l K r h => by
 dsimp only [aJ.app] at h
 split at h
 ·rename_i a
  exact fin (enc := aJ.enc) h rfl fun y h => by
   exact via (if (0 : Int) ≤ 0 then if 0 < (a.size : Int) then if ((bt a 0) != 101) then if (0 : Int) ≤ 0 then if 0 < (a.size : Int) then (aJ.j0 k a 0 ((bt a 0) != 69)).map aJ.enc else none else none else (aJ.j0 k a 0 false).map aJ.enc else none else none) (by rw [aJ.f] at h; exact Eq.trans (Eq.symm mt2) h)
 ·cases h
def aW.enc (r : Bool × ByteArray × ByteArray × Int × Bool) : AV := .tup [.agg [.v (.bool r.1), .v (.string r.2.1), .v (.string r.2.2.1), .v (.int .i64 r.2.2.2.1)], .v (.bool r.2.2.2.2)]
def aW.app (k : Nat) : List AV → (AV → Option AV) → Option AV := fun l K => match l with
 | [.v (.string a)] => (aW.f k a).bind fun r => K (aW.enc r)
 | _ => none
def aW.p0 (k : Nat) : Pt := ⟨[.c [1, 0, 1, 0, 0], .c [1, 0, 1, 0, 1], .c [1, 0, 1, 1], .s [1, 0]], [(0, none, [])], [(2, [])], [], [], fun s => match s with
 | ⟨[(0, .v (.string a)), (2, .ptr 2 0)], [(2, .cells [.v (.bool b), .v (.string c), .v (.string d), .v (.int .i64 e)])]⟩ => (aW.j1 k a b c d e).map aW.enc
 | _ => none⟩
def aW.p1 (k : Nat) : Pt := ⟨[.c [1, 0, 1, 1, 1, 1, 1, 1, 0, 0, 0, 0, 0], .c [1, 0, 1, 1, 1, 1, 1, 1, 0, 0, 0, 0, 1], .c [1, 0, 1, 1, 1, 1, 1, 1, 0, 0, 0, 1], .l [1, 0, 1, 1, 1, 1, 1, 1, 0, 0, 0], .b 0, .c [1, 0, 1, 1, 1, 1, 1, 1, 1], .s [1, 0]], [(0, none, []), (6, none, []), (7, none, [])], [(2, [])], [(5, .u8, 5)], [], fun s => match s with
 | ⟨[(0, .v (.string a)), (6, .v (.bool b)), (7, .v (.int .i64 c)), (2, .ptr 2 0), (5, .own 5)], [(2, .cells [.v (.bool d), .v (.string e), .v (.string f), .v (.int .i64 g)]), (5, .ints .u8 5 i)]⟩ => (aW.l0 k a i b c d e f g).map aW.enc
 | _ => none⟩
def aW.p2 (k : Nat) : Pt := ⟨[.c [1, 0, 1, 1, 1, 1, 1, 1, 1, 0], .c [1, 0, 1, 1, 1, 1, 1, 1, 1, 1], .s [1, 0]], [(0, none, []), (7, none, [])], [(2, [])], [(5, .u8, 5)], [], fun s => match s with
 | ⟨[(0, .v (.string a)), (7, .v (.int .i64 b)), (2, .ptr 2 0), (5, .own 5)], [(2, .cells [.v (.bool c), .v (.string d), .v (.string e), .v (.int .i64 f)]), (5, .ints .u8 5 g)]⟩ => (aW.j4 k a g b c d e f).map aW.enc
 | _ => none⟩
def aW.p3 (k : Nat) : Pt := ⟨[.c [1, 0, 0, 1], .c [1, 0, 1], .s [1, 0]], [(0, none, []), (21, none, [])], [(2, [])], [], [], fun s => match s with
 | ⟨[(0, .v (.string a)), (21, .v (.bool b)), (2, .ptr 2 0)], [(2, .cells [.v (.bool c), .v (.string d), .v (.string e), .v (.int .i64 f)])]⟩ => (aW.j0 k a b c d e f).map aW.enc
 | _ => none⟩
def aW.p4 (k : Nat) : Pt := ⟨[.c [1, 0, 1, 0, 1, 1], .c [1, 0, 1, 1], .s [1, 0]], [(0, none, []), (4, none, []), (40, none, [])], [(2, [])], [], [], fun s => match s with
 | ⟨[(0, .v (.string a)), (4, .v (.string b)), (40, .v (.bool c)), (2, .ptr 2 0)], [(2, .cells [.v (.bool d), .v (.string e), .v (.string f), .v (.int .i64 g)])]⟩ => (aW.j2 k a b c d e f g).map aW.enc
 | _ => none⟩
def aW.E (k : Nat) : Env := ⟨101, tys, [(128, iR.app), (129, iC.app), (130, aJ.app k)], [(4, aW.p0 k), (11, aW.p1 k), (20, aW.p2 k), (100021, aW.p3 k), (100040, aW.p4 k)], [], false, [93, 4], false⟩
theorem aW.fok (k : Nat) : FO 54 f54 (dF f54) (aW.E k) := fo fV func54 ⟨iR.ok, ⟨iC.ok, ⟨aJ.ok k, trivial⟩⟩⟩
theorem aW.s0 : jM f54 aW.E aW.p0 := fun k s r h => by
 dsimp only [aW.p0] at h
 split at h
 ·rename_i a b c d e
  rcases k with _ | k
  ·cases h
  exact ⟨k, rfl, via ((iR.f a).bind fun f => if ((a.size : Int) == 3) then if (f.toList == (⟨#[105, 110, 102]⟩ : ByteArray).toList) = false then (aW.j2 k a f (f.toList == (⟨#[110, 97, 110]⟩ : ByteArray).toList) b c d e).map aW.enc else (aW.j2 k a f true b c d e).map aW.enc else (aW.j2 k a f false b c d e).map aW.enc) (by rw [aW.j1] at h; exact Eq.trans (Eq.symm mt2) h)⟩
 ·cases h
theorem aW.s1 : jM f54 aW.E aW.p1 := fun k s r h => by
 dsimp only [aW.p1] at h
 split at h
 ·rename_i a b c d e f g i
  rcases k with _ | k
  ·cases h
  exact ⟨k, rfl, via (if (decide (c < (a.size : Int))) then if 0 ≤ c then if c < (a.size : Int) then (iC.f (bt a c)).bind fun j => if j then if (i.length + ([bt a c] : List Int).length) * 1 ≤ 140737488355328 then if b then (aW.l0 k a (i ++ ([bt a c] : List Int)) b (wrap64 (c + 1)) d e f (wrap64 (g - 1))).map aW.enc else (aW.l0 k a (i ++ ([bt a c] : List Int)) b (wrap64 (c + 1)) d e f g).map aW.enc else none else if ((bt a c) == 46) then if (!b) then (aW.l0 k a i true (wrap64 (c + 1)) d e f g).map aW.enc else (aW.j4 k a i c d e f g).map aW.enc else (aW.j4 k a i c d e f g).map aW.enc else none else none else (aW.j4 k a i c d e f g).map aW.enc) (by rw [aW.l0] at h; exact Eq.trans (Eq.symm mt2) h)⟩
 ·cases h
theorem aW.s2 : jM f54 aW.E aW.p2 := fun k s r h => by
 dsimp only [aW.p2] at h
 split at h
 ·rename_i a b c d e f g
  rcases k with _ | k
  ·cases h
  exact ⟨k, rfl, via (if ((g.length : Int) == 0) then some (.tup [.agg [bA c, sA d, sA (strOfNums g), iA f], bA false]) else if (b == (a.size : Int)) then some (.tup [.agg [bA c, sA d, sA (strOfNums g), iA f], bA true]) else if 0 ≤ b then if b ≤ (a.size : Int) then (aJ.f k (a.extract (b : Int).toNat ((a.size : Int) : Int).toNat)).bind fun i => some (.tup [.agg [bA c, sA d, sA (strOfNums g), iA (wrap64 (f + i.1))], bA i.2]) else none else none) (by rw [aW.j4] at h; exact Eq.trans (Eq.symm mt2) h)⟩
 ·cases h
theorem aW.s3 : jM f54 aW.E aW.p3 := fun k s r h => by
 dsimp only [aW.p3] at h
 split at h
 ·rename_i a b c d e f
  rcases k with _ | k
  ·cases h
  exact ⟨k, rfl, via (if b then if (0 : Int) ≤ 0 then if 0 < (a.size : Int) then if (0 : Int) ≤ 1 then if 1 ≤ (a.size : Int) then (aW.j1 k (a.extract (1 : Int).toNat ((a.size : Int) : Int).toNat) ((bt a 0) == 45) d e f).map aW.enc else none else none else none else none else (aW.j1 k a c d e f).map aW.enc) (by rw [aW.j0] at h; exact Eq.trans (Eq.symm mt2) h)⟩
 ·cases h
theorem aW.s4 : jM f54 aW.E aW.p4 := fun k s r h => by
 dsimp only [aW.p4] at h
 split at h
 ·rename_i a b c d e f g
  rcases k with _ | k
  ·cases h
  exact ⟨k, rfl, via (if c then some (.tup [.agg [bA d, sA b, sA f, iA g], bA true]) else if (0 : Int) = 0 then if 0 ≤ (a.size : Int) then if ((a.size : Int) : Int).toNat * 1 ≤ 281474976710656 then (aW.l0 k a ([] : List Int) false 0 d e f g).map aW.enc else none else none else none) (by rw [aW.j2] at h; exact Eq.trans (Eq.symm mt2) h)⟩
 ·cases h
theorem aW.pts : ∀ k, jI prog (dF f54) (aW.E k) GOk (Fin prog f54) := je stays mixed aW.fok [(4, aW.p0), (11, aW.p1), (20, aW.p2), (100021, aW.p3), (100040, aW.p4)] ⟨aW.s0, aW.s1, aW.s2, aW.s3, aW.s4, trivial⟩
theorem aW.ok (k : Nat) : AO 54 (aW.app k) := eX stays mixed (aW.fok k) (aW.pts k) fun l K r h => by
 dsimp only [aW.app] at h
 split at h
 ·rename_i a
  exact fin (enc := aW.enc) h rfl fun y h => by
   exact via (if (a.toList != (⟨#[]⟩ : ByteArray).toList) then if (0 : Int) ≤ 0 then if 0 < (a.size : Int) then if ((bt a 0) == 43) = false then if (0 : Int) ≤ 0 then if 0 < (a.size : Int) then (aW.j0 k a ((bt a 0) == 45) false (⟨#[]⟩ : ByteArray) (⟨#[]⟩ : ByteArray) 0).map aW.enc else none else none else (aW.j0 k a true false (⟨#[]⟩ : ByteArray) (⟨#[]⟩ : ByteArray) 0).map aW.enc else none else none else (aW.j0 k a false false (⟨#[]⟩ : ByteArray) (⟨#[]⟩ : ByteArray) 0).map aW.enc) (by rw [aW.f] at h; exact Eq.trans (Eq.symm mt2) h)
 ·cases h
def gY.enc (r : Int) : AV := .v (.int .i64 r)
def gY.app : List AV → (AV → Option AV) → Option AV := fun l K => match l with
 | [.v (.int .i64 a)] => (gY.f a).bind fun r => K (gY.enc r)
 | _ => none
def gY.E : Env := ⟨9, tys, [], [], [], false, [24], false⟩
theorem gY.fok : FO 211 f211 (dF f211) (gY.E) := fo fV func211 trivial
theorem gY.ok : AO 211 (gY.app) := eX stays mixed (gY.fok) (dX rfl) fun l K r h => by
 dsimp only [gY.app] at h
 split at h
 ·rename_i a
  exact fin (enc := gY.enc) h rfl fun y h => by
   exact via (if (decide (a < 0)) = false then if (decide (a > 5)) then some (iA 3) else some (iA 0) else some (iA 3)) (by rw [gY.f] at h; exact Eq.trans (Eq.symm mt2) h)
 ·cases h
def iI.enc (r : Int × Int × Int × Int × Int) : AV := .tup [.agg [.v (.int .i64 r.1), .v (.int .i64 r.2.1), .v (.int .i64 r.2.2.1), .v (.int .i64 r.2.2.2.1)], .v (.int .i64 r.2.2.2.2)]
def iI.app : List AV → (AV → Option AV) → Option AV := fun l K => match l with
 | [.v (.int .i64 a), .v (.int .i64 b)] => (iI.f a b).bind fun r => K (iI.enc r)
 | _ => none
def iI.E : Env := ⟨20, tys, [(52, dn.app), (211, gY.app)], [], [(4, [0, 1, 2, 3, 4])], false, [88, 24], false⟩
theorem iI.fok : FO 139 f139 (dF f139) (iI.E) := fo fV func139 ⟨dn.ok, ⟨gY.ok, trivial⟩⟩
theorem iI.ok : AO 139 (iI.app) := eX stays mixed (iI.fok) (dX rfl) fun l K r h => by
 dsimp only [iI.app] at h
 split at h
 ·rename_i a b
  exact fin (enc := iI.enc) h rfl fun y h => by
   exact via ((dn.f a).bind fun c => if (c.2.2.2.2 != 0) then some (.tup [.agg [iA c.1, iA c.2.1, iA c.2.2.1, iA c.2.2.2.1], iA c.2.2.2.2]) else (gY.f b).bind fun d => some (.tup [.agg [iA c.1, iA c.2.1, iA c.2.2.1, iA c.2.2.2.1], iA d])) (by rw [iI.f] at h; exact Eq.trans (Eq.symm mt2) h)
 ·cases h
def jF.enc (r : Int × Int × Int) : AV := .tup [.v (.int .u64 r.1), .v (.int .i64 r.2.1), .v (.int .i64 r.2.2)]
def jF.app : List AV → (AV → Option AV) → Option AV := fun l K => match l with
 | [.v (.int .i64 a), .v (.bool b)] => (jF.f a b).bind fun r => K (jF.enc r)
 | _ => none
def jF.E : Env := ⟨17, tys, [(58, jc.app)], [], [], false, [22, 23, 24], false⟩
theorem jF.fok : FO 141 f141 (dF f141) (jF.E) := fo fV func141 ⟨jc.ok, trivial⟩
theorem jF.ok : AO 141 (jF.app) := eX stays mixed (jF.fok) (dX rfl) fun l K r h => by
 dsimp only [jF.app] at h
 split at h
 ·rename_i a b
  exact fin (enc := jF.enc) h rfl fun y h => by
   exact via ((jc.f a b).bind fun c => some (.tup [uA c.1, iA 0, iA c.2])) (by rw [jF.f] at h; exact Eq.trans (Eq.symm mt2) h)
 ·cases h
def bF.enc (r : Bool × List Int × Int × Bool) : AV := .agg [.v (.bool r.1), .ro true .u64 r.2.1, .v (.int .i64 r.2.2.1), .v (.bool r.2.2.2)]
def bF.app (k : Nat) : List AV → (AV → Option AV) → Option AV := fun l K => match l with
 | [.ro false .u64 a, .ro false .u64 b, .v (.int .i64 c)] => (bF.f k a b c).bind fun r => K (bF.enc r)
 | _ => none
def bF.p0 (k : Nat) : Pt := ⟨[.c [1, 1, 1, 1, 1, 0, 0, 0, 0, 0], .c [1, 1, 1, 1, 1, 0, 0, 0, 0, 1], .c [1, 1, 1, 1, 1, 0, 0, 0, 1], .l [1, 1, 1, 1, 1, 0, 0, 0], .b 0, .c [1, 1, 1, 1, 1, 1]], [(1, some .u64, [false]), (2, none, []), (11, some .u64, [])], [(13, [])], [], [6], fun s => match s with
 | ⟨[(1, .ro false .u64 a), (2, .v (.int .i64 b)), (11, .ro true .u64 c), (13, .ptr 13 0), (6, .ptr 6 0)], [(13, .cells [.v (.bool d), .ro true .u64 e, .v (.int .i64 f), .v (.bool g)]), (6, .cells [.top, .top, .top, .top])]⟩ => (bF.l0 k a b c d e f g).map bF.enc
 | _ => none⟩
def bF.p1 (k : Nat) : Pt := ⟨[.c [1, 1, 1, 1, 1, 0, 0, 0, 0, 1], .c [1, 1, 1, 1, 1, 0, 0, 0, 1], .l [1, 1, 1, 1, 1, 0, 0, 0], .b 0, .c [1, 1, 1, 1, 1, 1]], [(1, some .u64, [false]), (2, none, []), (11, some .u64, []), (47, none, [])], [(13, [])], [], [6], fun s => match s with
 | ⟨[(1, .ro false .u64 a), (2, .v (.int .i64 b)), (11, .ro true .u64 c), (47, .v (.bool d)), (13, .ptr 13 0), (6, .ptr 6 0)], [(13, .cells [.v (.bool e), .ro true .u64 f, .v (.int .i64 g), .v (.bool i)]), (6, .cells [.top, .top, .top, .top])]⟩ => (bF.j1 k a b c d e f g i).map bF.enc
 | _ => none⟩
def bF.E (k : Nat) : Env := ⟨81, tys, [(182, ji.app), (89, ig.app), (101, jf.app), (104, jE.app), (103, jd.app), (160, kV.app)], [(5, bF.p0 k), (100047, bF.p1 k)], [], false, [197], false⟩
theorem bF.fok (k : Nat) : FO 142 f142 (dF f142) (bF.E k) := fo fV func142 ⟨ji.ok, ⟨ig.ok, ⟨jf.ok, ⟨jE.ok, ⟨jd.ok, ⟨kV.ok, trivial⟩⟩⟩⟩⟩⟩
theorem bF.s0 : jM f142 bF.E bF.p0 := fun k s r h => by
 dsimp only [bF.p0] at h
 split at h
 ·rename_i a b c d e f g
  rcases k with _ | k
  ·cases h
  exact ⟨k, rfl, via ((ji.f e).bind fun i => if (decide (i < b)) then (bF.j1 k a b c (decide ((c.length : Int) > 0)) d e f g).map bF.enc else (bF.j1 k a b c false d e f g).map bF.enc) (by rw [bF.l0] at h; exact Eq.trans (Eq.symm mt2) h)⟩
 ·cases h
theorem bF.s1 : jM f142 bF.E bF.p1 := fun k s r h => by
 dsimp only [bF.p1] at h
 split at h
 ·rename_i a b c d e f g i
  rcases k with _ | k
  ·cases h
  exact ⟨k, rfl, via (if d then (jE.f f f).bind fun j => (jE.f c c).bind fun m => (jd.f m a).bind fun n => if (decide (n ≥ 0)) then (kV.f m a).bind fun o => (jE.f j ([1] : List Int)).bind fun p => (bF.l0 k a b o.1 e p (wrap64 (g - 1)) i).map bF.enc else (bF.l0 k a b m e j (wrap64 (g - 1)) i).map bF.enc else some (.agg [bA e, rA f, iA g, bA (decide ((c.length : Int) > 0))])) (by rw [bF.j1] at h; exact Eq.trans (Eq.symm mt2) h)⟩
 ·cases h
theorem bF.pts : ∀ k, jI prog (dF f142) (bF.E k) GOk (Fin prog f142) := je stays mixed bF.fok [(5, bF.p0), (100047, bF.p1)] ⟨bF.s0, bF.s1, trivial⟩
theorem bF.ok (k : Nat) : AO 142 (bF.app k) := eX stays mixed (bF.fok k) (bF.pts k) fun l K r h => by
 dsimp only [bF.app] at h
 split at h
 ·rename_i a b c
  exact fin (enc := bF.enc) h rfl fun y h => by
   exact via ((ji.f b).bind fun d => (ji.f a).bind fun e => (ig.f a (mx 0 (wrap64 ((wrap64 (d - e)) - 1)))).bind fun f => (jf.f f.1 b).bind fun g => (bF.l0 k b c g.2.1 false g.1 (wrap64 (-(mx 0 (wrap64 ((wrap64 (d - e)) - 1))))) false).map bF.enc) (by rw [bF.f] at h; exact Eq.trans (Eq.symm mt2) h)
 ·cases h
def gQ.enc (r : Int) : AV := .v (.int .i64 r)
def gQ.app : List AV → (AV → Option AV) → Option AV := fun l K => match l with
 | [.agg [.v (.bool a), .ro false .u64 b, .v (.int .i64 c), .v (.bool d)]] => (gQ.f a b c d).bind fun r => K (gQ.enc r)
 | _ => none
def gQ.E : Env := ⟨10, tys, [(182, ji.app)], [], [(1, [0, 1, 2, 3, 4, 5, 6, 7])], false, [3], false⟩
theorem gQ.fok : FO 212 f212 (dF f212) (gQ.E) := fo fV func212 ⟨ji.ok, trivial⟩
theorem gQ.ok : AO 212 (gQ.app) := eX stays mixed (gQ.fok) (dX rfl) fun l K r h => by
 dsimp only [gQ.app] at h
 split at h
 ·rename_i a b c d
  exact fin (enc := gQ.enc) h rfl fun y h => by
   exact via ((ji.f b).bind fun e => some (iA (wrap64 ((wrap64 (c + e)) - 1)))) (by rw [gQ.f] at h; exact Eq.trans (Eq.symm mt2) h)
 ·cases h
def bV.enc (r : Int) : AV := .v (.int .u64 r)
def bV.app (k : Nat) : List AV → (AV → Option AV) → Option AV := fun l K => match l with
 | [.v (.int .i64 a), .v (.int .i64 b), .v (.bool c)] => (bV.f k a b c).bind fun r => K (bV.enc r)
 | _ => none
def bV.p0 (k : Nat) : Pt := ⟨[.c [1, 1, 0, 0], .c [1, 1, 0, 1], .c [1, 1, 1]], [(0, none, []), (2, none, []), (7, none, [])], [], [], [], fun s => match s with
 | ⟨[(0, .v (.int .i64 a)), (2, .v (.bool b)), (7, .v (.bool c))], []⟩ => (bV.j0 k a b c).map bV.enc
 | _ => none⟩
def bV.E (k : Nat) : Env := ⟨48, tys, [(56, gV.app), (248, iM.app)], [(2, bV.p0 k)], [], false, [22], false⟩
theorem bV.fok (k : Nat) : FO 213 f213 (dF f213) (bV.E k) := fo fV func213 ⟨gV.ok, ⟨iM.ok, trivial⟩⟩
theorem bV.s0 : jM f213 bV.E bV.p0 := fun k s r h => by
 dsimp only [bV.p0] at h
 split at h
 ·rename_i a b c
  rcases k with _ | k
  ·cases h
  exact ⟨k, rfl, via (if c then (gV.f a b).bind fun d => some (uA d.1) else (iM.f a b).bind fun e => some (uA e.1)) (by rw [bV.j0] at h; exact Eq.trans (Eq.symm mt2) h)⟩
 ·cases h
theorem bV.pts : ∀ k, jI prog (dF f213) (bV.E k) GOk (Fin prog f213) := je stays mixed bV.fok [(2, bV.p0)] ⟨bV.s0, trivial⟩
theorem bV.ok (k : Nat) : AO 213 (bV.app k) := eX stays mixed (bV.fok k) (bV.pts k) fun l K r h => by
 dsimp only [bV.app] at h
 split at h
 ·rename_i a b c
  exact fin (enc := bV.enc) h rfl fun y h => by
   exact via (if (b == 0) = false then if (b == 1) = false then if (b == 3) then if (!c) = false then if (b == 4) then (bV.j0 k a c c).map bV.enc else (bV.j0 k a c false).map bV.enc else (bV.j0 k a c true).map bV.enc else if (b == 4) then (bV.j0 k a c c).map bV.enc else (bV.j0 k a c false).map bV.enc else (bV.j0 k a c true).map bV.enc else (bV.j0 k a c true).map bV.enc) (by rw [bV.f] at h; exact Eq.trans (Eq.symm mt2) h)
 ·cases h
def iJ.enc (r : Bool) : AV := .v (.bool r)
def iJ.app : List AV → (AV → Option AV) → Option AV := fun l K => match l with
 | [.v (.int .i64 a), .v (.bool b), .v (.bool c), .v (.int .u64 d)] => (iJ.f a b c d).bind fun r => K (iJ.enc r)
 | _ => none
def iJ.E : Env := ⟨31, tys, [], [], [], false, [4], false⟩
theorem iJ.fok : FO 251 f251 (dF f251) (iJ.E) := fo fV func251 trivial
theorem iJ.ok : AO 251 (iJ.app) := eX stays mixed (iJ.fok) (dX rfl) fun l K r h => by
 dsimp only [iJ.app] at h
 split at h
 ·rename_i a b c d
  exact fin (enc := iJ.enc) h rfl fun y h => by
   exact via (if (a == 4) then some (bA (!(!b))) else if (a == 3) then some (bA (!b)) else if (a == 0) then if (d == 2) then some (bA c) else some (bA (decide (d ≥ 2))) else if (a == 1) then some (bA (decide (d ≥ 2))) else if (a == 5) then some (bA (!c)) else some (bA false)) (by rw [iJ.f] at h; exact Eq.trans (Eq.symm mt2) h)
 ·cases h
def aC.enc (r : List Int × Bool) : AV := .tup [.ro true .u64 r.1, .v (.bool r.2)]
def aC.app (k : Nat) : List AV → (AV → Option AV) → Option AV := fun l K => match l with
 | [.agg [.v (.bool a), .ro false .u64 b, .v (.int .i64 c), .v (.bool d)], .v (.int .i64 e), .v (.int .i64 f)] => (aC.f k a b c d e f).bind fun r => K (aC.enc r)
 | _ => none
def aC.p0 (k : Nat) : Pt := ⟨[.c [1, 1, 1, 0], .c [1, 1, 1, 1]], [(1, none, []), (8, some .u64, [])], [(3, [false])], [], [], fun s => match s with
 | ⟨[(1, .v (.int .i64 a)), (8, .ro true .u64 b), (3, .ptr 3 0)], [(3, .cells [.v (.bool c), .ro false .u64 d, .v (.int .i64 e), .v (.bool f)])]⟩ => (aC.j0 k a b c d e f).map aC.enc
 | _ => none⟩
def aC.p1 (k : Nat) : Pt := ⟨[.c [1, 1, 1, 1, 1, 0, 0], .c [1, 1, 1, 1, 1, 0, 1], .c [1, 1, 1, 1, 1, 1]], [(1, none, []), (8, some .u64, []), (9, none, [])], [(3, [false])], [], [], fun s => match s with
 | ⟨[(1, .v (.int .i64 a)), (8, .ro true .u64 b), (9, .v (.int .u64 c)), (3, .ptr 3 0)], [(3, .cells [.v (.bool d), .ro false .u64 e, .v (.int .i64 f), .v (.bool g)])]⟩ => (aC.j1 k a b c d e f g).map aC.enc
 | _ => none⟩
def aC.p2 (k : Nat) : Pt := ⟨[.c [1, 1, 1, 1, 1, 1, 0], .c [1, 1, 1, 1, 1, 1, 1]], [(1, none, []), (8, some .u64, []), (9, none, [])], [(3, [false])], [], [], fun s => match s with
 | ⟨[(1, .v (.int .i64 a)), (8, .ro true .u64 b), (9, .v (.int .u64 c)), (3, .ptr 3 0)], [(3, .cells [.v (.bool d), .ro false .u64 e, .v (.int .i64 f), .v (.bool g)])]⟩ => (aC.j2 k a b c d e f g).map aC.enc
 | _ => none⟩
def aC.p3 (k : Nat) : Pt := ⟨[.c [1, 1, 1, 1, 1, 1, 1, 1, 0, 0], .c [1, 1, 1, 1, 1, 1, 1, 1, 0, 1], .c [1, 1, 1, 1, 1, 1, 1, 1, 1]], [(1, none, []), (9, none, []), (10, some .u64, []), (12, none, [])], [(3, [false])], [], [], fun s => match s with
 | ⟨[(1, .v (.int .i64 a)), (9, .v (.int .u64 b)), (10, .ro true .u64 c), (12, .v (.bool d)), (3, .ptr 3 0)], [(3, .cells [.v (.bool e), .ro false .u64 f, .v (.int .i64 g), .v (.bool i)])]⟩ => (aC.j3 k a b c d e f g i).map aC.enc
 | _ => none⟩
def aC.E (k : Nat) : Env := ⟨82, tys, [(249, lQ.app), (89, ig.app), (250, lS.app), (251, iJ.app), (104, jE.app)], [(5, aC.p0 k), (8, aC.p1 k), (10, aC.p2 k), (12, aC.p3 k)], [], false, [73, 4], false⟩
theorem aC.fok (k : Nat) : FO 214 f214 (dF f214) (aC.E k) := fo fV func214 ⟨lQ.ok, ⟨ig.ok, ⟨lS.ok, ⟨iJ.ok, ⟨jE.ok, trivial⟩⟩⟩⟩⟩
theorem aC.s0 : jM f214 aC.E aC.p0 := fun k s r h => by
 dsimp only [aC.p0] at h
 split at h
 ·rename_i a b c d e f
  rcases k with _ | k
  ·cases h
  exact ⟨k, rfl, via (if (decide ((b.length : Int) > 0)) then if (0 : Int) ≤ 0 then if 0 < (b.length : Int) then (aC.j1 k a b (Go.bits .and .u64 (rd b 0) 3) c d e f).map aC.enc else none else none else (aC.j1 k a b 0 c d e f).map aC.enc) (by rw [aC.j0] at h; exact Eq.trans (Eq.symm mt2) h)⟩
 ·cases h
theorem aC.s1 : jM f214 aC.E aC.p1 := fun k s r h => by
 dsimp only [aC.p1] at h
 split at h
 ·rename_i a b c d e f g
  rcases k with _ | k
  ·cases h
  exact ⟨k, rfl, via (if g then (aC.j2 k a b (Go.bits .or .u64 c 1) d e f g).map aC.enc else (aC.j2 k a b c d e f g).map aC.enc) (by rw [aC.j1] at h; exact Eq.trans (Eq.symm mt2) h)⟩
 ·cases h
theorem aC.s2 : jM f214 aC.E aC.p2 := fun k s r h => by
 dsimp only [aC.p2] at h
 split at h
 ·rename_i a b c d e f g
  rcases k with _ | k
  ·cases h
  exact ⟨k, rfl, via ((lS.f b 2).bind fun i => if (decide ((i.1.length : Int) > 0)) then if (0 : Int) ≤ 0 then if 0 < (i.1.length : Int) then (aC.j3 k a c i.1 ((Go.bits .and .u64 (rd i.1 0) 1) == 1) d e f g).map aC.enc else none else none else (aC.j3 k a c i.1 false d e f g).map aC.enc) (by rw [aC.j2] at h; exact Eq.trans (Eq.symm mt2) h)⟩
 ·cases h
theorem aC.s3 : jM f214 aC.E aC.p3 := fun k s r h => by
 dsimp only [aC.p3] at h
 split at h
 ·rename_i a b c d e f g i
  rcases k with _ | k
  ·cases h
  exact ⟨k, rfl, via (if (b != 0) then (iJ.f a e d b).bind fun j => if j then (jE.f c ([1] : List Int)).bind fun m => some (.tup [rA m, bA (b != 0)]) else some (.tup [rA c, bA (b != 0)]) else some (.tup [rA c, bA (b != 0)])) (by rw [aC.j3] at h; exact Eq.trans (Eq.symm mt2) h)⟩
 ·cases h
theorem aC.pts : ∀ k, jI prog (dF f214) (aC.E k) GOk (Fin prog f214) := je stays mixed aC.fok [(5, aC.p0), (8, aC.p1), (10, aC.p2), (12, aC.p3)] ⟨aC.s0, aC.s1, aC.s2, aC.s3, trivial⟩
theorem aC.ok (k : Nat) : AO 214 (aC.app k) := eX stays mixed (aC.fok k) (aC.pts k) fun l K r h => by
 dsimp only [aC.app] at h
 split at h
 ·rename_i a b c d e f
  exact fin (enc := aC.enc) h rfl fun y h => by
   exact via (if (decide ((wrap64 (f - c)) ≥ 2)) then (lQ.f b (wrap64 ((wrap64 (f - c)) - 2))).bind fun g => (aC.j0 k e g.1 a b c d).map aC.enc else (ig.f b (wrap64 (2 - (wrap64 (f - c))))).bind fun i => (aC.j0 k e i.1 a b c d).map aC.enc) (by rw [aC.f] at h; exact Eq.trans (Eq.symm mt2) h)
 ·cases h
def f_.enc (r : Bool) : AV := .v (.bool r)
def f_.app (k : Nat) : List AV → (AV → Option AV) → Option AV := fun l K => match l with
 | [.agg [.v (.bool a), .ro false .u64 b, .v (.int .i64 c), .v (.bool d)], .agg [.v (.int .i64 e), .v (.int .i64 f), .v (.int .i64 g), .v (.int .i64 i)], .v (.int .i64 j), .v (.int .i64 m)] => (f_.f k a b c d e f g i j m).bind fun r => K (f_.enc r)
 | _ => none
def f_.E (k : Nat) : Env := ⟨36, tys, [(214, aC.app k), (182, ji.app)], [], [(4, [0, 1, 2, 3, 4, 7, 8, 5, 6, 9, 10])], false, [4], false⟩
theorem f_.fok (k : Nat) : FO 215 f215 (dF f215) (f_.E k) := fo fV func215 ⟨aC.ok k, ⟨ji.ok, trivial⟩⟩
theorem f_.ok (k : Nat) : AO 215 (f_.app k) := eX stays mixed (f_.fok k) (dX rfl) fun l K r h => by
 dsimp only [f_.app] at h
 split at h
 ·rename_i a b c d e f g i j m
  exact fin (enc := f_.enc) h rfl fun y h => by
   exact via (if (decide (m ≥ g)) then some (bA false) else (aC.f k a b c d j (wrap64 ((wrap64 (m - f)) + 1))).bind fun n => (ji.f n.1).bind fun o => some (bA (decide ((wrap64 ((wrap64 (m - f)) + o)) < g)))) (by rw [f_.f] at h; exact Eq.trans (Eq.symm mt2) h)
 ·cases h
def aY.enc (r : Int × Int) : AV := .tup [.v (.int .u64 r.1), .v (.int .i64 r.2)]
def aY.app (k : Nat) : List AV → (AV → Option AV) → Option AV := fun l K => match l with
 | [.agg [.v (.bool a), .ro false .u64 b, .v (.int .i64 c), .v (.bool d)], .v (.int .i64 e), .agg [.v (.int .i64 f), .v (.int .i64 g), .v (.int .i64 i), .v (.int .i64 j)], .v (.int .i64 m)] => (aY.f k a b c d e f g i j m).bind fun r => K (aY.enc r)
 | _ => none
def aY.p0 (k : Nat) : Pt := ⟨[.c [1, 1, 1, 1, 1, 1, 1, 1, 0, 0], .c [1, 1, 1, 1, 1, 1, 1, 1, 0, 1], .c [1, 1, 1, 1, 1, 1, 1, 1, 1]], [(1, none, []), (3, none, []), (10, none, []), (12, none, []), (13, some .u64, []), (14, none, []), (15, none, [])], [(4, [false]), (6, [])], [], [], fun s => match s with
 | ⟨[(1, .v (.int .i64 a)), (3, .v (.int .i64 b)), (10, .v (.int .i64 c)), (12, .v (.int .i64 d)), (13, .ro true .u64 e), (14, .v (.bool f)), (15, .v (.int .u64 g)), (4, .ptr 4 0), (6, .ptr 6 0)], [(4, .cells [.v (.bool i), .ro false .u64 j, .v (.int .i64 m), .v (.bool n)]), (6, .cells [.v (.int .i64 o), .v (.int .i64 p), .v (.int .i64 q), .v (.int .i64 t)])]⟩ => (aY.j0 k a b c d e f g i j m n o p q t).map aY.enc
 | _ => none⟩
def aY.p1 (k : Nat) : Pt := ⟨[.c [1, 1, 1, 1, 1, 1, 1, 1, 1, 1, 0, 0], .c [1, 1, 1, 1, 1, 1, 1, 1, 1, 1, 0, 1], .c [1, 1, 1, 1, 1, 1, 1, 1, 1, 1, 1]], [(3, none, []), (10, none, []), (14, none, []), (15, none, [])], [(4, [false]), (6, [])], [], [], fun s => match s with
 | ⟨[(3, .v (.int .i64 a)), (10, .v (.int .i64 b)), (14, .v (.bool c)), (15, .v (.int .u64 d)), (4, .ptr 4 0), (6, .ptr 6 0)], [(4, .cells [.v (.bool e), .ro false .u64 f, .v (.int .i64 g), .v (.bool i)]), (6, .cells [.v (.int .i64 j), .v (.int .i64 m), .v (.int .i64 n), .v (.int .i64 o)])]⟩ => (aY.j1 k a b c d e f g i j m n o).map aY.enc
 | _ => none⟩
def aY.E (k : Nat) : Env := ⟨95, tys, [(212, gQ.app), (213, bV.app k), (214, aC.app k), (182, ji.app), (215, f_.app k)], [(10, aY.p0 k), (14, aY.p1 k)], [(10, [0, 1, 5, 6, 2, 3, 4, 7])], false, [22, 23], false⟩
theorem aY.fok (k : Nat) : FO 143 f143 (dF f143) (aY.E k) := fo fV func143 ⟨gQ.ok, ⟨bV.ok k, ⟨aC.ok k, ⟨ji.ok, ⟨f_.ok k, trivial⟩⟩⟩⟩⟩
theorem aY.s0 : jM f143 aY.E aY.p0 := fun k s r h => by
 dsimp only [aY.p0] at h
 split at h
 ·rename_i a b c d e f g i j m n o p q t
  rcases k with _ | k
  ·cases h
  exact ⟨k, rfl, via ((ji.f e).bind fun u => if (decide ((wrap64 ((wrap64 (d + u)) - 1)) > t)) then (bV.f k a b i).bind fun v => some (.tup [uA v, iA 20]) else if i then if 0 ≤ wrap64 (o - 1) then (aY.j1 k b c f (Go.bits .or .u64 g (shl .u64 1 (wrap64 (o - 1)))) i j m n o p q t).map aY.enc else none else (aY.j1 k b c f g i j m n o p q t).map aY.enc) (by rw [aY.j0] at h; exact Eq.trans (Eq.symm mt2) h)⟩
 ·cases h
theorem aY.s1 : jM f143 aY.E aY.p1 := fun k s r h => by
 dsimp only [aY.p1] at h
 split at h
 ·rename_i a b c d e f g i j m n o
  rcases k with _ | k
  ·cases h
  exact ⟨k, rfl, via (if (!c) then some (.tup [uA d, iA 0]) else (f_.f k e f g i j m n o a b).bind fun p => if p then some (.tup [uA d, iA 24]) else some (.tup [uA d, iA 16])) (by rw [aY.j1] at h; exact Eq.trans (Eq.symm mt2) h)⟩
 ·cases h
theorem aY.pts : ∀ k, jI prog (dF f143) (aY.E k) GOk (Fin prog f143) := je stays mixed aY.fok [(10, aY.p0), (14, aY.p1)] ⟨aY.s0, aY.s1, trivial⟩
theorem aY.ok (k : Nat) : AO 143 (aY.app k) := eX stays mixed (aY.fok k) (aY.pts k) fun l K r h => by
 dsimp only [aY.app] at h
 split at h
 ·rename_i a b c d e f g i j m
  exact fin (enc := aY.enc) h rfl fun y h => by
   exact via ((gQ.f a b c d).bind fun n => if (decide (n > j)) then (bV.f k e m a).bind fun o => some (.tup [uA o, iA 20]) else (aC.f k a b c d m (wrap64 ((wrap64 ((mx n i) - g)) + 1))).bind fun p => if 0 ≤ wrap64 (g - 1) then if (decide ((p.1.length : Int) > 0)) then if (0 : Int) ≤ 0 then if 0 < (p.1.length : Int) then (aY.j0 k e m n (wrap64 ((wrap64 ((mx n i) - g)) + 1)) p.1 p.2 (IntKind.wrap .u64 ((shl .u64 (IntKind.wrap .u64 (wrap64 ((wrap64 ((wrap64 ((mx n i) - g)) + 1)) - (wrap64 ((wrap64 (i - g)) + 1))))) (wrap64 (g - 1))) + (rd p.1 0))) a b c d f g i j).map aY.enc else none else none else (aY.j0 k e m n (wrap64 ((wrap64 ((mx n i) - g)) + 1)) p.1 p.2 (shl .u64 (IntKind.wrap .u64 (wrap64 ((wrap64 ((wrap64 ((mx n i) - g)) + 1)) - (wrap64 ((wrap64 (i - g)) + 1))))) (wrap64 (g - 1))) a b c d f g i j).map aY.enc else none) (by rw [aY.f] at h; exact Eq.trans (Eq.symm mt2) h)
 ·cases h
def d_.enc (r : Int × Int × Int) : AV := .tup [.v (.int .u64 r.1), .v (.int .i64 r.2.1), .v (.int .i64 r.2.2)]
def d_.app (k : Nat) : List AV → (AV → Option AV) → Option AV := fun l K => match l with
 | [.v (.int .i64 a), .v (.int .i64 b), .v (.bool c), .ro false .u64 d, .ro false .u64 e, .v (.int .i64 f)] => (d_.f k a b c d e f).bind fun r => K (d_.enc r)
 | _ => none
def d_.p0 (k : Nat) : Pt := ⟨[.c [1, 1, 1, 1, 0, 0, 1, 1, 1], .b 0, .c [1, 1, 1, 1, 1]], [(0, none, []), (1, none, []), (2, none, []), (3, some .u64, []), (4, some .u64, []), (5, none, []), (40, none, [])], [(15, [])], [], [], fun s => match s with
 | ⟨[(0, .v (.int .i64 a)), (1, .v (.int .i64 b)), (2, .v (.bool c)), (3, .ro true .u64 d), (4, .ro true .u64 e), (5, .v (.int .i64 f)), (40, .v (.bool g)), (15, .ptr 15 0)], [(15, .cells [.v (.int .i64 i), .v (.int .i64 j), .v (.int .i64 m), .v (.int .i64 n)])]⟩ => (d_.j0 k a b c d e f g i j m n).map d_.enc
 | _ => none⟩
def d_.E (k : Nat) : Env := ⟨84, tys, [(139, iI.app), (140, kE.app), (141, jF.app), (142, bF.app k), (143, aY.app k)], [(100040, d_.p0 k)], [], false, [22, 23, 24], false⟩
theorem d_.fok (k : Nat) : FO 59 f59 (dF f59) (d_.E k) := fo fV func59 ⟨iI.ok, ⟨kE.ok, ⟨jF.ok, ⟨bF.ok k, ⟨aY.ok k, trivial⟩⟩⟩⟩⟩
theorem d_.s0 : jM f59 d_.E d_.p0 := fun k s r h => by
 dsimp only [d_.p0] at h
 split at h
 ·rename_i a b c d e f g i j m n
  rcases k with _ | k
  ·cases h
  exact ⟨k, rfl, via (if g then some (.tup [uA 0, iA 0, iA 30]) else if ((e.length : Int) == 0) then some (.tup [uA 0, iA 0, iA 10]) else if ((d.length : Int) == 0) then (jF.f a c).bind fun o => some (.tup [uA o.1, iA o.2.1, iA o.2.2]) else (bF.f k d e (wrap64 (j + 3))).bind fun p => (aY.f k c p.2.1 (wrap64 (p.2.2.1 + f)) p.2.2.2 a i j m n b).bind fun q => some (.tup [uA q.1, iA q.2, iA 0])) (by rw [d_.j0] at h; exact Eq.trans (Eq.symm mt2) h)⟩
 ·cases h
theorem d_.pts : ∀ k, jI prog (dF f59) (d_.E k) GOk (Fin prog f59) := je stays mixed d_.fok [(100040, d_.p0)] ⟨d_.s0, trivial⟩
theorem d_.ok (k : Nat) : AO 59 (d_.app k) := eX stays mixed (d_.fok k) (d_.pts k) fun l K r h => by
 dsimp only [d_.app] at h
 split at h
 ·rename_i a b c d e f
  exact fin (enc := d_.enc) h rfl fun y h => by
   exact via ((iI.f a b).bind fun g => if (g.2.2.2.2 != 0) then some (.tup [uA 0, iA 0, iA g.2.2.2.2]) else (kE.f d).bind fun i => (kE.f e).bind fun j => if (decide ((wrap64 ((i.length : Int) + (j.length : Int))) > 1024)) then some (.tup [uA 0, iA 0, iA 5]) else if (decide (f < (-40000))) = false then (d_.j0 k a b c i j f (decide (f > 40000)) g.1 g.2.1 g.2.2.1 g.2.2.2.1).map d_.enc else (d_.j0 k a b c i j f true g.1 g.2.1 g.2.2.1 g.2.2.2.1).map d_.enc) (by rw [d_.f] at h; exact Eq.trans (Eq.symm mt2) h)
 ·cases h
def gy.enc (r : List Int) : AV := .ro true .u64 r
def gy.app : List AV → (AV → Option AV) → Option AV := fun l K => match l with
 | [.v (.int .i64 a)] => (gy.f a).bind fun r => K (gy.enc r)
 | _ => none
def gy.E : Env := ⟨11, tys, [(91, gX.app)], [], [], false, [73], false⟩
theorem gy.fok : FO 60 f60 (dF f60) (gy.E) := fo fV func60 ⟨gX.ok, trivial⟩
theorem gy.ok : AO 60 (gy.app) := eX stays mixed (gy.fok) (dX rfl) fun l K r h => by
 dsimp only [gy.app] at h
 split at h
 ·rename_i a
  exact fin (enc := gy.enc) h rfl fun y h => by
   exact via ((gX.f 10 a).bind fun b => some (rA b.1)) (by rw [gy.f] at h; exact Eq.trans (Eq.symm mt2) h)
 ·cases h
def gU.enc (r : Int × Int × Int) : AV := .tup [.v (.int .u64 r.1), .v (.int .i64 r.2.1), .v (.int .i64 r.2.2)]
def gU.app (k : Nat) : List AV → (AV → Option AV) → Option AV := fun l K => match l with
 | [.v (.int .i64 a), .v (.int .i64 b), .v (.string c)] => (gU.f k a b c).bind fun r => K (gU.enc r)
 | _ => none
def gU.E (k : Nat) : Env := ⟨121, tys, [(52, dn.app), (53, iy.app), (54, aW.app k), (55, iK.app), (56, gV.app), (57, jQ.app), (58, jc.app), (37, jX.app), (60, gy.app), (59, d_.app k), (61, iP.app)], [], [(17, [0, 1, 2, 3, 4, 5, 6, 7, 8, 9, 10, 11, 12, 13, 14])], false, [22, 23, 24], false⟩
theorem gU.fok (k : Nat) : FO 14 f14 (dF f14) (gU.E k) := fo fV func14 ⟨dn.ok, ⟨iy.ok, ⟨aW.ok k, ⟨iK.ok, ⟨gV.ok, ⟨jQ.ok, ⟨jc.ok, ⟨jX.ok, ⟨gy.ok, ⟨d_.ok k, ⟨iP.ok, trivial⟩⟩⟩⟩⟩⟩⟩⟩⟩⟩⟩
theorem gU.ok (k : Nat) : AO 14 (gU.app k) := eX stays mixed (gU.fok k) (dX rfl) fun l K r h => by
 dsimp only [gU.app] at h
 split at h
 ·rename_i a b c
  exact fin (enc := gU.enc) h rfl fun y h => by
   exact via ((dn.f a).bind fun d => if (d.2.2.2.2 != 0) then some (.tup [uA 0, iA 0, iA d.2.2.2.2]) else (iy.f b).bind fun e => if (!e) then some (.tup [uA 0, iA 0, iA 3]) else if (decide ((c.size : Int) > 2000)) then some (.tup [uA 0, iA 0, iA 5]) else (aW.f k c).bind fun f => if (!f.2.2.2.2) then some (.tup [uA 0, iA 0, iA 8]) else (iK.f f.2.2.1 (⟨#[48]⟩ : ByteArray)).bind fun g => if (f.2.1.toList == (⟨#[105, 110, 102]⟩ : ByteArray).toList) then (gV.f a f.1).bind fun i => some (.tup [uA i.1, iA 0, iA i.2]) else if (f.2.1.toList == (⟨#[110, 97, 110]⟩ : ByteArray).toList) then (jQ.f a).bind fun j => some (.tup [uA j.1, iA 0, iA j.2]) else if (g.toList == (⟨#[]⟩ : ByteArray).toList) then (jc.f a f.1).bind fun m => some (.tup [uA m.1, iA 0, iA m.2]) else (jX.f g).bind fun n => if (decide ((mx (wrap64 ((-400) - (g.size : Int))) (mn f.2.2.2.1 (wrap64 (400 - (g.size : Int))))) < 0)) then (gy.f (wrap64 (-(mx (wrap64 ((-400) - (g.size : Int))) (mn f.2.2.2.1 (wrap64 (400 - (g.size : Int)))))))).bind fun o => (d_.f k a b f.1 n.1 o 0).bind fun p => some (.tup [uA p.1, iA p.2.1, iA p.2.2]) else (gy.f (mx (wrap64 ((-400) - (g.size : Int))) (mn f.2.2.2.1 (wrap64 (400 - (g.size : Int)))))).bind fun q => (iP.f n.1 q).bind fun t => (d_.f k a b f.1 t.1 ([1] : List Int) 0).bind fun u => some (.tup [uA u.1, iA u.2.1, iA u.2.2])) (by rw [gU.f] at h; exact Eq.trans (Eq.symm mt2) h)
 ·cases h
def bJ.enc (r : Int × Int × Int × Int × Bool) : AV := .tup [.agg [.v (.int .i64 r.1), .v (.int .i64 r.2.1), .v (.int .i64 r.2.2.1), .v (.int .i64 r.2.2.2.1)], .v (.bool r.2.2.2.2)]
def bJ.app : List AV → (AV → Option AV) → Option AV := fun l K => match l with
 | [.v (.int .i64 a)] => (bJ.f a).bind fun r => K (bJ.enc r)
 | _ => none
def bJ.E : Env := ⟨18, tys, [], [], [], false, [201, 4], false⟩
theorem bJ.fok : FO 145 f145 (dF f145) (bJ.E) := fo fV func145 trivial
theorem bJ.ok : AO 145 (bJ.app) := eX stays mixed (bJ.fok) (dX rfl) fun l K r h => by
 dsimp only [bJ.app] at h
 split at h
 ·rename_i a
  exact fin (enc := bJ.enc) h rfl fun y h => by
   exact via (if (a == 0) then some (.tup [.agg [iA 16, iA 11, iA (-14), iA 15], bA true]) else if (a == 1) then some (.tup [.agg [iA 16, iA 8, iA (-126), iA 127], bA true]) else if (a == 2) then some (.tup [.agg [iA 32, iA 24, iA (-126), iA 127], bA true]) else if (a == 3) then some (.tup [.agg [iA 64, iA 53, iA (-1022), iA 1023], bA true]) else some (.tup [.agg [iA 0, iA 0, iA 0, iA 0], bA false])) (by rw [bJ.f] at h; exact Eq.trans (Eq.symm mt2) h)
 ·cases h
def dL.enc (r : Int) : AV := .v (.int .i64 r)
def dL.app : List AV → (AV → Option AV) → Option AV := fun l K => match l with
 | [.v (.int .i64 a), .v (.int .u64 b)] => (dL.f a b).bind fun r => K (dL.enc r)
 | _ => none
def dL.E : Env := ⟨25, tys, [(145, bJ.app)], [], [], false, [3], false⟩
theorem dL.fok : FO 79 f79 (dF f79) (dL.E) := fo fV func79 ⟨bJ.ok, trivial⟩
theorem dL.ok : AO 79 (dL.app) := eX stays mixed (dL.fok) (dX rfl) fun l K r h => by
 dsimp only [dL.app] at h
 split at h
 ·rename_i a b
  exact fin (enc := dL.enc) h rfl fun y h => by
   exact via ((bJ.f a).bind fun c => if (!c.2.2.2.2) then some (iA 2) else if (decide (c.1 < 64)) then if 0 ≤ IntKind.wrap .u64 (c.1) then if ((shr .u64 b (IntKind.wrap .u64 (c.1))) != 0) then some (iA 4) else some (iA 0) else none else some (iA 0)) (by rw [dL.f] at h; exact Eq.trans (Eq.symm mt2) h)
 ·cases h
def dR.enc (r : Int) : AV := .v (.int .i64 r)
def dR.app (k : Nat) : List AV → (AV → Option AV) → Option AV := fun l K => match l with
 | [.v (.int .i64 a), .v (.int .i64 b), .ro false .u64 c] => (dR.f k a b c).bind fun r => K (dR.enc r)
 | _ => none
def dR.p0 (k : Nat) : Pt := ⟨[.c [1, 1, 1, 1, 0, 1, 0, 0, 0], .c [1, 1, 1, 1, 0, 1, 0, 0, 1], .l [1, 1, 1, 1, 0, 1, 0, 0], .b 0, .c [1, 1, 1, 1, 1]], [(0, none, []), (25, some .u64, [false]), (26, none, []), (27, none, [])], [], [], [7], fun s => match s with
 | ⟨[(0, .v (.int .i64 a)), (25, .ro false .u64 b), (26, .v (.int .i64 c)), (27, .v (.int .i64 d)), (7, .ptr 7 0)], [(7, .cells [.top, .top, .top, .top])]⟩ => (dR.l0 k a b c d).map dR.enc
 | _ => none⟩
def dR.p1 (k : Nat) : Pt := ⟨[.c [1, 1, 1, 0, 1], .c [1, 1, 1, 1]], [(0, none, []), (2, some .u64, [false]), (24, none, [])], [], [], [7], fun s => match s with
 | ⟨[(0, .v (.int .i64 a)), (2, .ro false .u64 b), (24, .v (.bool c)), (7, .ptr 7 0)], [(7, .cells [.top, .top, .top, .top])]⟩ => (dR.j0 k a b c).map dR.enc
 | _ => none⟩
def dR.E (k : Nat) : Env := ⟨38, tys, [(145, bJ.app), (79, dL.app)], [(7, dR.p0 k), (100024, dR.p1 k)], [], false, [3], false⟩
def fP.enc (r : ByteArray) : AV := .v (.string r)
def fP.app (k : Nat) : List AV → (AV → Option AV) → Option AV := fun l K => match l with
 | [.v (.string a)] => (fP.f k a).bind fun r => K (fP.enc r)
 | _ => none
def fP.p0 (k : Nat) : Pt := ⟨[.c [1, 1, 0, 1, 0, 0, 0, 0], .c [1, 1, 0, 1, 0, 0, 0, 1], .c [1, 1, 0, 1, 0, 0, 1], .l [1, 1, 0, 1, 0, 0], .b 0, .c [1, 1, 1]], [(0, none, []), (3, none, []), (4, none, [])], [], [], [], fun s => match s with
 | ⟨[(0, .v (.string a)), (3, .v (.string b)), (4, .v (.int .i64 c))], []⟩ => (fP.l0 k a b c).map fP.enc
 | _ => none⟩
def fP.E (k : Nat) : Env := ⟨29, tys, [], [(3, fP.p0 k)], [], false, [9], false⟩
def jl.enc (r : Bool) : AV := .v (.bool r)
def jl.app : List AV → (AV → Option AV) → Option AV := fun l K => match l with
 | [.v (.int .u8 a)] => (jl.f a).bind fun r => K (jl.enc r)
 | _ => none
def jl.E : Env := ⟨9, tys, [], [], [], false, [4], false⟩
def bG.enc (r : Int × Bool) : AV := .tup [.v (.int .i64 r.1), .v (.bool r.2)]
def bG.app (k : Nat) : List AV → (AV → Option AV) → Option AV := fun l K => match l with
 | [.v (.string a)] => (bG.f k a).bind fun r => K (bG.enc r)
 | _ => none
def bG.p0 (k : Nat) : Pt := ⟨[.c [1, 1, 0, 0], .c [1, 1, 0, 1], .c [1, 1, 1]], [(0, none, []), (4, none, [])], [], [], [], fun s => match s with
 | ⟨[(0, .v (.string a)), (4, .v (.bool b))], []⟩ => (bG.j0 k a b).map bG.enc
 | _ => none⟩
def bG.p1 (k : Nat) : Pt := ⟨[.c [1, 1, 1, 0], .c [1, 1, 1, 1]], [(0, none, []), (4, none, [])], [], [], [], fun s => match s with
 | ⟨[(0, .v (.string a)), (4, .v (.bool b))], []⟩ => (bG.j2 k a b).map bG.enc
 | _ => none⟩
def bG.p2 (k : Nat) : Pt := ⟨[.c [1, 1, 1, 1, 0, 1, 0, 0, 0, 0], .c [1, 1, 1, 1, 0, 1, 0, 0, 0, 1], .c [1, 1, 1, 1, 0, 1, 0, 0, 1], .l [1, 1, 1, 1, 0, 1, 0, 0], .b 0, .c [1, 1, 1, 1, 1]], [(0, none, []), (4, none, []), (5, none, []), (6, none, [])], [], [], [], fun s => match s with
 | ⟨[(0, .v (.string a)), (4, .v (.bool b)), (5, .v (.int .i64 c)), (6, .v (.int .i64 d))], []⟩ => (bG.l0 k a b c d).map bG.enc
 | _ => none⟩
def bG.p3 (k : Nat) : Pt := ⟨[.c [1, 1, 0, 1], .c [1, 1, 1]], [(0, none, []), (4, none, []), (27, none, [])], [], [], [], fun s => match s with
 | ⟨[(0, .v (.string a)), (4, .v (.bool b)), (27, .v (.bool c))], []⟩ => (bG.j1 k a b c).map bG.enc
 | _ => none⟩
def bG.E (k : Nat) : Env := ⟨57, tys, [(147, jl.app)], [(2, bG.p0 k), (4, bG.p1 k), (6, bG.p2 k), (100027, bG.p3 k)], [], false, [3, 4], false⟩
def aZ.enc (r : Bool × Bool × Bool × ByteArray × Int × Bool) : AV := .tup [.agg [.v (.bool r.1), .v (.bool r.2.1), .v (.bool r.2.2.1), .v (.string r.2.2.2.1), .v (.int .i64 r.2.2.2.2.1)], .v (.bool r.2.2.2.2.2)]
def aZ.app (k : Nat) : List AV → (AV → Option AV) → Option AV := fun l K => match l with
 | [.v (.string a)] => (aZ.f k a).bind fun r => K (aZ.enc r)
 | _ => none
def aZ.p0 (k : Nat) : Pt := ⟨[.c [1, 1, 1, 0, 0], .c [1, 1, 1, 0, 1], .c [1, 1, 1, 1]], [(0, none, [])], [(4, [])], [], [2], fun s => match s with
 | ⟨[(0, .v (.string a)), (4, .ptr 4 0), (2, .ptr 2 0)], [(4, .cells [.v (.bool b), .v (.bool c), .v (.bool d), .v (.string e), .v (.int .i64 f)]), (2, .cells [.top, .top, .top, .top, .top])]⟩ => (aZ.j1 k a b c d e f).map aZ.enc
 | _ => none⟩
def aZ.p1 (k : Nat) : Pt := ⟨[.c [1, 1, 1, 1, 0], .c [1, 1, 1, 1, 1]], [(0, none, [])], [(4, [])], [], [2], fun s => match s with
 | ⟨[(0, .v (.string a)), (4, .ptr 4 0), (2, .ptr 2 0)], [(4, .cells [.v (.bool b), .v (.bool c), .v (.bool d), .v (.string e), .v (.int .i64 f)]), (2, .cells [.top, .top, .top, .top, .top])]⟩ => (aZ.j2 k a b c d e f).map aZ.enc
 | _ => none⟩
def aZ.p2 (k : Nat) : Pt := ⟨[.c [1, 1, 1, 1, 1, 0, 1, 0, 0, 0, 0], .c [1, 1, 1, 1, 1, 0, 1, 0, 0, 0, 1], .c [1, 1, 1, 1, 1, 0, 1, 0, 0, 1], .l [1, 1, 1, 1, 1, 0, 1, 0, 0], .b 0, .c [1, 1, 1, 1, 1, 1]], [(0, none, []), (5, none, []), (6, none, [])], [(4, [])], [], [2], fun s => match s with
 | ⟨[(0, .v (.string a)), (5, .v (.int .i64 b)), (6, .v (.int .i64 c)), (4, .ptr 4 0), (2, .ptr 2 0)], [(4, .cells [.v (.bool d), .v (.bool e), .v (.bool f), .v (.string g), .v (.int .i64 i)]), (2, .cells [.top, .top, .top, .top, .top])]⟩ => (aZ.l0 k a b c d e f g i).map aZ.enc
 | _ => none⟩
def aZ.p3 (k : Nat) : Pt := ⟨[.c [1, 1, 0, 1], .c [1, 1, 1]], [(0, none, []), (22, none, [])], [(4, [])], [], [2], fun s => match s with
 | ⟨[(0, .v (.string a)), (22, .v (.bool b)), (4, .ptr 4 0), (2, .ptr 2 0)], [(4, .cells [.v (.bool c), .v (.bool d), .v (.bool e), .v (.string f), .v (.int .i64 g)]), (2, .cells [.top, .top, .top, .top, .top])]⟩ => (aZ.j0 k a b c d e f g).map aZ.enc
 | _ => none⟩
def aZ.p4 (k : Nat) : Pt := ⟨[.c [1, 1, 1, 1, 1, 0, 1, 0, 0, 1, 0, 0, 0, 1, 1, 1], .b 2, .b 1, .c [1, 1, 1, 1, 1, 0, 1, 0, 0, 1, 1], .l [1, 1, 1, 1, 1, 0, 1, 0, 0], .b 0, .c [1, 1, 1, 1, 1, 1]], [(0, none, []), (5, none, []), (6, none, []), (72, none, [])], [(4, [])], [], [2], fun s => match s with
 | ⟨[(0, .v (.string a)), (5, .v (.int .i64 b)), (6, .v (.int .i64 c)), (72, .v (.bool d)), (4, .ptr 4 0), (2, .ptr 2 0)], [(4, .cells [.v (.bool e), .v (.bool f), .v (.bool g), .v (.string i), .v (.int .i64 j)]), (2, .cells [.top, .top, .top, .top, .top])]⟩ => (aZ.j4 k a b c d e f g i j).map aZ.enc
 | _ => none⟩
def aZ.x23 (k : Nat) (x8 : Bool) (x5000 : Bool) (x5001 : Bool) (x5002 : Bool) (x5003 : ByteArray) (x5004 : Int) : Option AV := if x8 then some (.tup [.agg [bA x5000, bA x5001, bA x5002, sA x5003, iA x5004], bA (x5003.toList != (⟨#[]⟩ : ByteArray).toList)]) else some (.tup [.agg [bA x5000, bA x5001, bA x5002, sA x5003, iA x5004], bA false])
def aZ.q23 (k : Nat) : Pt := ⟨[.c [1, 1, 1, 1, 1, 0, 1, 0, 0, 1, 0, 0, 0, 1, 1, 1, 1, 1, 0, 1, 1, 0], .c [1, 1, 1, 1, 1, 0, 1, 0, 0, 1, 0, 0, 0, 1, 1, 1, 1, 1, 0, 1, 1, 1], .b 2, .b 1, .c [1, 1, 1, 1, 1, 0, 1, 0, 0, 1, 1], .l [1, 1, 1, 1, 1, 0, 1, 0, 0], .b 0, .c [1, 1, 1, 1, 1, 1]], [(8, none, [])], [(4, [])], [], [2], fun s => match s with
 | ⟨[(8, .v (.bool x8)), (4, .ptr 4 0), (2, .ptr 2 0)], [(4, .cells [.v (.bool x5000), .v (.bool x5001), .v (.bool x5002), .v (.string x5003), .v (.int .i64 x5004)]), (2, .cells [.top, .top, .top, .top, .top])]⟩ => aZ.x23 k x8 x5000 x5001 x5002 x5003 x5004
 | _ => none⟩
def aZ.x25 (k : Nat) (x5000 : Bool) (x5001 : Bool) (x5002 : Bool) (x5003 : ByteArray) (x5004 : Int) : Option AV := some (.tup [.agg [bA x5000, bA x5001, bA x5002, sA x5003, iA x5004], bA (x5003.toList != (⟨#[]⟩ : ByteArray).toList)])
def aZ.q25 (k : Nat) : Pt := ⟨[.c [1, 1, 1, 1, 1, 1, 1, 0], .c [1, 1, 1, 1, 1, 1, 1, 1]], [], [(4, [])], [], [2], fun s => match s with
 | ⟨[(4, .ptr 4 0), (2, .ptr 2 0)], [(4, .cells [.v (.bool x5000), .v (.bool x5001), .v (.bool x5002), .v (.string x5003), .v (.int .i64 x5004)]), (2, .cells [.top, .top, .top, .top, .top])]⟩ => aZ.x25 k x5000 x5001 x5002 x5003 x5004
 | _ => none⟩
def aZ.E (k : Nat) : Env := ⟨120, tys, [(146, fP.app k), (147, jl.app), (148, bG.app k)], [(23, aZ.q23 k), (25, aZ.q25 k), (5, aZ.p0 k), (9, aZ.p1 k), (11, aZ.p2 k), (100022, aZ.p3 k), (100072, aZ.p4 k)], [(15, [0, 1, 2, 3, 4, 5, 6, 7, 8, 9])], false, [104, 4], false⟩
def bY.enc (r : Int) : AV := .v (.int .u64 r)
def bY.app : List AV → (AV → Option AV) → Option AV := fun l K => match l with
 | [.v (.int .i64 a), .v (.int .u64 b), .v (.int .u64 c), .v (.int .u64 d)] => (bY.f a b c d).bind fun r => K (bY.enc r)
 | _ => none
def bY.E : Env := ⟨31, tys, [(145, bJ.app)], [], [], false, [22], false⟩
theorem bY.fok : FO 149 f149 (dF f149) (bY.E) := fo fV func149 ⟨bJ.ok, trivial⟩
theorem bY.ok : AO 149 (bY.app) := eX stays mixed (bY.fok) (dX rfl) fun l K r h => by
 dsimp only [bY.app] at h
 split at h
 ·rename_i a b c d
  exact fin (enc := bY.enc) h rfl fun y h => by
   exact via ((bJ.f a).bind fun e => if 0 ≤ IntKind.wrap .u64 (wrap64 (e.1 - 1)) then if 0 ≤ IntKind.wrap .u64 (wrap64 (e.2.1 - 1)) then some (uA (Go.bits .or .u64 (Go.bits .or .u64 (shl .u64 b (IntKind.wrap .u64 (wrap64 (e.1 - 1)))) (shl .u64 c (IntKind.wrap .u64 (wrap64 (e.2.1 - 1))))) d)) else none else none) (by rw [bY.f] at h; exact Eq.trans (Eq.symm mt2) h)
 ·cases h
def jY.enc (r : Int) : AV := .v (.int .u64 r)
def jY.app : List AV → (AV → Option AV) → Option AV := fun l K => match l with
 | [.v (.int .i64 a)] => (jY.f a).bind fun r => K (jY.enc r)
 | _ => none
def jY.E : Env := ⟨22, tys, [(145, bJ.app), (149, bY.app)], [], [], false, [22], false⟩
def fK.enc (r : Int) : AV := .v (.int .u64 r)
def fK.app : List AV → (AV → Option AV) → Option AV := fun l K => match l with
 | [.v (.int .i64 a), .v (.int .u64 b)] => (fK.f a b).bind fun r => K (fK.enc r)
 | _ => none
def fK.E : Env := ⟨20, tys, [(145, bJ.app), (149, bY.app)], [], [], false, [22], false⟩
theorem fK.fok : FO 65 f65 (dF f65) (fK.E) := fo fV func65 ⟨bJ.ok, ⟨bY.ok, trivial⟩⟩
theorem fK.ok : AO 65 (fK.app) := eX stays mixed (fK.fok) (dX rfl) fun l K r h => by
 dsimp only [fK.app] at h
 split at h
 ·rename_i a b
  exact fin (enc := fK.enc) h rfl fun y h => by
   exact via ((bJ.f a).bind fun c => (bY.f a b (IntKind.wrap .u64 (wrap64 ((wrap64 (2 * c.2.2.2.1)) + 1))) 0).bind fun d => some (uA d)) (by rw [fK.f] at h; exact Eq.trans (Eq.symm mt2) h)
 ·cases h
def bg.enc (r : List Int) : AV := .ro true .u64 r
def bg.app (k : Nat) : List AV → (AV → Option AV) → Option AV := fun l K => match l with
 | [.ro false .u64 a] => (bg.f k a).bind fun r => K (bg.enc r)
 | _ => none
def bg.p0 (k : Nat) : Pt := ⟨[.c [1, 1, 0, 1, 0, 0, 0, 0], .c [1, 1, 0, 1, 0, 0, 0, 1], .c [1, 1, 0, 1, 0, 0, 1], .l [1, 1, 0, 1, 0, 0], .b 0, .c [1, 1, 1]], [(0, some .u64, [false]), (4, none, []), (2, some .u64, [])], [], [(3, .u64, 22)], [], fun s => match s with
 | ⟨[(0, .ro false .u64 a), (4, .v (.int .i64 b)), (2, .ro true .u64 []), (3, .own 3)], [(3, .ints .u64 22 c)]⟩ => (bg.l0 k a c b).map bg.enc
 | _ => none⟩
def bg.E (k : Nat) : Env := ⟨37, tys, [(154, bI.app)], [(3, bg.p0 k)], [(5, [0, 1, 2, 3, 4, 5, 6, 7, 8, 9, 10, 11, 12, 13, 14, 15, 16, 17, 18, 19])], false, [73], false⟩
theorem bg.fok (k : Nat) : FO 150 f150 (dF f150) (bg.E k) := fo fV func150 ⟨bI.ok, trivial⟩
theorem bg.s0 : jM f150 bg.E bg.p0 := fun k s r h => by
 dsimp only [bg.p0] at h
 split at h
 ·rename_i a b c
  rcases k with _ | k
  ·cases h
  exact ⟨k, rfl, via (if (decide (b < (a.length : Int))) then if (2 : Int) = 0 then none else if (2 : Int) = 0 then none else if 0 ≤ wrap64 (Int.tdiv b 2) then if wrap64 (Int.tdiv b 2) < (c.length : Int) then if 0 ≤ b then if b < (a.length : Int) then if (2 : Int) = 0 then none else if 0 ≤ IntKind.wrap .u64 (wrap64 (32 * (Int.tmod b 2))) then if 0 ≤ wrap64 (Int.tdiv b 2) then if wrap64 (Int.tdiv b 2) < (c.length : Int) then (bg.l0 k a (c.set (wrap64 (Int.tdiv b 2) : Int).toNat (Go.bits .or .u64 (rd c (wrap64 (Int.tdiv b 2))) (shl .u64 (rd a b) (IntKind.wrap .u64 (wrap64 (32 * (Int.tmod b 2))))))) (wrap64 (b + 1))).map bg.enc else none else none else none else none else none else none else none else (bI.f c).bind fun d => some (rA d)) (by rw [bg.l0] at h; exact Eq.trans (Eq.symm mt2) h)⟩
 ·cases h
theorem bg.pts : ∀ k, jI prog (dF f150) (bg.E k) GOk (Fin prog f150) := je stays mixed bg.fok [(3, bg.p0)] ⟨bg.s0, trivial⟩
theorem bg.ok (k : Nat) : AO 150 (bg.app k) := eX stays mixed (bg.fok k) (bg.pts k) fun l K r h => by
 dsimp only [bg.app] at h
 split at h
 ·rename_i a
  exact fin (enc := bg.enc) h rfl fun y h => by
   exact via (if (2 : Int) = 0 then none else if 0 ≤ wrap64 (Int.tdiv (wrap64 ((a.length : Int) + 1)) 2) then if (wrap64 (Int.tdiv (wrap64 ((a.length : Int) + 1)) 2) : Int).toNat * 8 ≤ 281474976710656 then (bg.l0 k a (List.replicate (wrap64 (Int.tdiv (wrap64 ((a.length : Int) + 1)) 2) : Int).toNat 0) 0).map bg.enc else none else none) (by rw [bg.f] at h; exact Eq.trans (Eq.symm mt2) h)
 ·cases h
def bP.enc (r : List Int × Int) : AV := .tup [.ro true .u64 r.1, .v (.int .i64 r.2)]
def bP.app (k : Nat) : List AV → (AV → Option AV) → Option AV := fun l K => match l with
 | [.v (.string a)] => (bP.f k a).bind fun r => K (bP.enc r)
 | _ => none
def bP.p0 (k : Nat) : Pt := ⟨[.c [1, 1, 1, 1, 1, 1, 0, 1, 0, 0, 0, 0], .c [1, 1, 1, 1, 1, 1, 0, 1, 0, 0, 0, 1], .c [1, 1, 1, 1, 1, 1, 0, 1, 0, 0, 1], .l [1, 1, 1, 1, 1, 1, 0, 1, 0, 0], .b 0, .c [1, 1, 1, 1, 1, 1, 1]], [(0, none, []), (5, none, []), (6, none, []), (7, none, [])], [], [(4, .u64, 22)], [], fun s => match s with
 | ⟨[(0, .v (.string a)), (5, .v (.int .u64 b)), (6, .v (.int .u64 c)), (7, .v (.int .i64 d)), (4, .own 4)], [(4, .ints .u64 22 e)]⟩ => (bP.l0 k a e b c d).map bP.enc
 | _ => none⟩
def bP.p1 (k : Nat) : Pt := ⟨[.c [1, 1, 1, 1, 1, 1, 0, 1, 0, 0, 1, 0, 0, 1, 1, 1, 1, 0, 1, 0, 1, 0, 0, 0, 0], .c [1, 1, 1, 1, 1, 1, 0, 1, 0, 0, 1, 0, 0, 1, 1, 1, 1, 0, 1, 0, 1, 0, 0, 0, 1], .c [1, 1, 1, 1, 1, 1, 0, 1, 0, 0, 1, 0, 0, 1, 1, 1, 1, 0, 1, 0, 1, 0, 0, 1], .l [1, 1, 1, 1, 1, 1, 0, 1, 0, 0, 1, 0, 0, 1, 1, 1, 1, 0, 1, 0, 1, 0, 0], .b 2, .c [1, 1, 1, 1, 1, 1, 0, 1, 0, 0, 1, 0, 0, 1, 1, 1, 1, 0, 1, 1], .b 1, .c [1, 1, 1, 1, 1, 1, 0, 1, 0, 0, 1, 1], .l [1, 1, 1, 1, 1, 1, 0, 1, 0, 0], .b 0, .c [1, 1, 1, 1, 1, 1, 1]], [(0, none, []), (6, none, []), (7, none, []), (8, none, []), (9, none, [])], [], [(4, .u64, 22)], [], fun s => match s with
 | ⟨[(0, .v (.string a)), (6, .v (.int .u64 b)), (7, .v (.int .i64 c)), (8, .v (.int .u64 d)), (9, .v (.int .i64 e)), (4, .own 4)], [(4, .ints .u64 22 f)]⟩ => (bP.l1 k a f b c d e).map bP.enc
 | _ => none⟩
def bP.p2 (k : Nat) : Pt := ⟨[.c [1, 1, 1, 1, 1, 1, 0, 1, 0, 0, 1, 0, 0, 0, 1], .c [1, 1, 1, 1, 1, 1, 0, 1, 0, 0, 1, 0, 0, 1], .b 1, .c [1, 1, 1, 1, 1, 1, 0, 1, 0, 0, 1, 1], .l [1, 1, 1, 1, 1, 1, 0, 1, 0, 0], .b 0, .c [1, 1, 1, 1, 1, 1, 1]], [(0, none, []), (5, none, []), (6, none, []), (7, none, []), (38, none, [])], [], [(4, .u64, 22)], [], fun s => match s with
 | ⟨[(0, .v (.string a)), (5, .v (.int .u64 b)), (6, .v (.int .u64 c)), (7, .v (.int .i64 d)), (38, .v (.bool e)), (4, .own 4)], [(4, .ints .u64 22 f)]⟩ => (bP.j1 k a f b c d e).map bP.enc
 | _ => none⟩
def bP.p3 (k : Nat) : Pt := ⟨[.c [1, 1, 1, 1, 1, 1, 0, 1, 0, 0, 1, 0, 0, 1, 1, 1, 1], .b 1, .c [1, 1, 1, 1, 1, 1, 0, 1, 0, 0, 1, 1], .l [1, 1, 1, 1, 1, 1, 0, 1, 0, 0], .b 0, .c [1, 1, 1, 1, 1, 1, 1]], [(0, none, []), (5, none, []), (6, none, []), (7, none, []), (58, none, [])], [], [(4, .u64, 22)], [], fun s => match s with
 | ⟨[(0, .v (.string a)), (5, .v (.int .u64 b)), (6, .v (.int .u64 c)), (7, .v (.int .i64 d)), (58, .v (.bool e)), (4, .own 4)], [(4, .ints .u64 22 f)]⟩ => (bP.j2 k a f b c d e).map bP.enc
 | _ => none⟩
def bP.E (k : Nat) : Env := ⟨93, tys, [(150, bg.app k)], [(9, bP.p0 k), (18, bP.p1 k), (100038, bP.p2 k), (100058, bP.p3 k)], [], false, [73, 3], false⟩
def fE.enc (r : Int) : AV := .v (.int .u64 r)
def fE.app : List AV → (AV → Option AV) → Option AV := fun l K => match l with
 | [.v (.int .i64 a), .v (.int .u64 b)] => (fE.f a b).bind fun r => K (fE.enc r)
 | _ => none
def fE.E : Env := ⟨8, tys, [(149, bY.app)], [], [], false, [22], false⟩
theorem fE.fok : FO 67 f67 (dF f67) (fE.E) := fo fV func67 ⟨bY.ok, trivial⟩
theorem fE.ok : AO 67 (fE.app) := eX stays mixed (fE.fok) (dX rfl) fun l K r h => by
 dsimp only [fE.app] at h
 split at h
 ·rename_i a b
  exact fin (enc := fE.enc) h rfl fun y h => by
   exact via ((bY.f a b 0 0).bind fun c => some (uA c)) (by rw [fE.f] at h; exact Eq.trans (Eq.symm mt2) h)
 ·cases h
def aH.enc (r : Int) : AV := .v (.int .i64 r)
def aH.app (k : Nat) : List AV → (AV → Option AV) → Option AV := fun l K => match l with
 | [.ro false .u64 a] => (aH.f k a).bind fun r => K (aH.enc r)
 | _ => none
def aH.p0 (k : Nat) : Pt := ⟨[.c [1, 1, 0, 0, 0, 0, 0], .c [1, 1, 0, 0, 0, 0, 1], .c [1, 1, 0, 0, 0, 1], .l [1, 1, 0, 0, 0], .b 0, .c [1, 1, 1]], [(0, some .u64, [false]), (3, none, [])], [], [], [], fun s => match s with
 | ⟨[(0, .ro false .u64 a), (3, .v (.int .i64 b))], []⟩ => (aH.l0 k a b).map aH.enc
 | _ => none⟩
def aH.E (k : Nat) : Env := ⟨19, tys, [], [(2, aH.p0 k)], [], false, [3], false⟩
theorem aH.fok (k : Nat) : FO 151 f151 (dF f151) (aH.E k) := fo fV func151 trivial
theorem aH.s0 : jM f151 aH.E aH.p0 := fun k s r h => by
 dsimp only [aH.p0] at h
 split at h
 ·rename_i a b
  rcases k with _ | k
  ·cases h
  exact ⟨k, rfl, via (if (decide (b > 0)) then if 0 ≤ wrap64 (b - 1) then if wrap64 (b - 1) < (a.length : Int) then if ((rd a (wrap64 (b - 1))) == 0) then (aH.l0 k a (wrap64 (b - 1))).map aH.enc else some (iA b) else none else none else some (iA b)) (by rw [aH.l0] at h; exact Eq.trans (Eq.symm mt2) h)⟩
 ·cases h
theorem aH.pts : ∀ k, jI prog (dF f151) (aH.E k) GOk (Fin prog f151) := je stays mixed aH.fok [(2, aH.p0)] ⟨aH.s0, trivial⟩
theorem aH.ok (k : Nat) : AO 151 (aH.app k) := eX stays mixed (aH.fok k) (aH.pts k) fun l K r h => by
 dsimp only [aH.app] at h
 split at h
 ·rename_i a
  exact fin (enc := aH.enc) h rfl fun y h => by
   exact via ((aH.l0 k a (a.length : Int)).map aH.enc) (by rw [aH.f] at h; exact Eq.trans (Eq.symm mt2) h)
 ·cases h
end Go.Proofs.YtafikkmnkeddpaaGreatDoor.P
set_option maxRecDepth 100000
namespace Go.Proofs.YtafikkmnkeddpaaGreatDoor.P
open Go.RowKit Go.Proofs.YtafikkmnkeddpaaGreatDoorW.PrintWords Go.Proofs.YtafikkmnkeddpaaGreatDoorW.PrintLast Go.Proofs.YtafikkmnkeddpaaGreatDoorW.PrintMore Go.Proofs.YtafikkmnkeddpaaGreatDoor.E Go.Proofs.Tryz
def aX.enc (r : List Int) : AV := .new 22 .u64 r
def aX.app (k : Nat) : List AV → (AV → Option AV) → Option AV := fun l K => match l with
 | [.ro false .u64 a] => (aX.f k a).bind fun r => K (aX.enc r)
 | _ => none
def aX.p0 (k : Nat) : Pt := ⟨[.c [1, 1, 1, 0, 1, 0, 0, 0, 0], .c [1, 1, 1, 0, 1, 0, 0, 0, 1], .c [1, 1, 1, 0, 1, 0, 0, 1], .l [1, 1, 1, 0, 1, 0, 0], .b 0, .c [1, 1, 1, 1]], [(0, some .u64, [false]), (3, none, []), (5, none, []), (2, some .u64, [])], [], [(4, .u64, 22)], [], fun s => match s with
 | ⟨[(0, .ro false .u64 a), (3, .v (.int .i64 b)), (5, .v (.int .i64 c)), (2, .ro true .u64 []), (4, .own 4)], [(4, .ints .u64 22 d)]⟩ => (aX.l0 k a b d c).map aX.enc
 | _ => none⟩
def aX.E (k : Nat) : Env := ⟨36, tys, [(151, aH.app k)], [(4, aX.p0 k)], [], false, [73], true⟩
theorem aX.fok (k : Nat) : FO 152 f152 (dF f152) (aX.E k) := fo fV func152 ⟨aH.ok k, trivial⟩
theorem aX.s0 : jM f152 aX.E aX.p0 := fun k s r h => by
 dsimp only [aX.p0] at h
 split at h
 ·rename_i a b c d
  rcases k with _ | k
  ·cases h
  exact ⟨k, rfl, via (if (decide (c < b)) then if 0 ≤ c then if c < (a.length : Int) then if 0 ≤ wrap64 (2 * c) then if wrap64 (2 * c) < (d.length : Int) then if 0 ≤ c then if c < (a.length : Int) then if (0 : Int) ≤ 32 then if 0 ≤ wrap64 ((wrap64 (2 * c)) + 1) then if wrap64 ((wrap64 (2 * c)) + 1) < ((d.set (wrap64 (2 * c) : Int).toNat (Go.bits .and .u64 (rd a c) 4294967295)).length : Int) then (aX.l0 k a b ((d.set (wrap64 (2 * c) : Int).toNat (Go.bits .and .u64 (rd a c) 4294967295)).set (wrap64 ((wrap64 (2 * c)) + 1) : Int).toNat (shr .u64 (rd a c) 32)) (wrap64 (c + 1))).map aX.enc else none else none else none else none else none else none else none else none else none else some (.new 22 .u64 d)) (by rw [aX.l0] at h; exact Eq.trans (Eq.symm mt2) h)⟩
 ·cases h
theorem aX.pts : ∀ k, jI prog (dF f152) (aX.E k) GOk (Fin prog f152) := je stays mixed aX.fok [(4, aX.p0)] ⟨aX.s0, trivial⟩
theorem aX.ok (k : Nat) : AO 152 (aX.app k) := eX stays mixed (aX.fok k) (aX.pts k) fun l K r h => by
 dsimp only [aX.app] at h
 split at h
 ·rename_i a
  exact fin (enc := aX.enc) h rfl fun y h => by
   exact via ((aH.f k a).bind fun b => if 0 ≤ wrap64 (2 * b) then if (wrap64 (2 * b) : Int).toNat * 8 ≤ 281474976710656 then (aX.l0 k a b (List.replicate (wrap64 (2 * b) : Int).toNat 0) 0).map aX.enc else none else none) (by rw [aX.f] at h; exact Eq.trans (Eq.symm mt2) h)
 ·cases h
def ah.enc (r : ByteArray × Int) : AV := .tup [.v (.string r.1), .v (.int .i64 r.2)]
def ah.app (k : Nat) : List AV → (AV → Option AV) → Option AV := fun l K => match l with
 | [.ro false .u64 a] => (ah.f k a).bind fun r => K (ah.enc r)
 | _ => none
def ah.p0 (k : Nat) : Pt := ⟨[.c [1, 1, 1, 1, 1, 1, 0, 0, 0, 0, 0], .c [1, 1, 1, 1, 1, 1, 0, 0, 0, 0, 1], .c [1, 1, 1, 1, 1, 1, 0, 0, 0, 1], .l [1, 1, 1, 1, 1, 1, 0, 0, 0], .b 0, .c [1, 1, 1, 1, 1, 1, 1]], [(6, none, [])], [], [(4, .u64, 22), (5, .u8, 5)], [], fun s => match s with
 | ⟨[(6, .v (.int .i64 a)), (4, .own 4), (5, .own 5)], [(4, .ints .u64 22 b), (5, .ints .u8 5 c)]⟩ => (ah.l0 k b c a).map ah.enc
 | _ => none⟩
def ah.p1 (k : Nat) : Pt := ⟨[.c [1, 1, 1, 1, 1, 1, 0, 0, 0, 1, 0, 1, 0, 1, 0, 0, 0, 0], .c [1, 1, 1, 1, 1, 1, 0, 0, 0, 1, 0, 1, 0, 1, 0, 0, 0, 1], .c [1, 1, 1, 1, 1, 1, 0, 0, 0, 1, 0, 1, 0, 1, 0, 0, 1], .l [1, 1, 1, 1, 1, 1, 0, 0, 0, 1, 0, 1, 0, 1, 0, 0], .b 2, .c [1, 1, 1, 1, 1, 1, 0, 0, 0, 1, 0, 1, 1], .b 1, .l [1, 1, 1, 1, 1, 1, 0, 0, 0], .b 0, .c [1, 1, 1, 1, 1, 1, 1]], [(6, none, []), (7, none, []), (8, none, [])], [], [(4, .u64, 22), (5, .u8, 5)], [], fun s => match s with
 | ⟨[(6, .v (.int .i64 a)), (7, .v (.int .u64 b)), (8, .v (.int .i64 c)), (4, .own 4), (5, .own 5)], [(4, .ints .u64 22 d), (5, .ints .u8 5 e)]⟩ => (ah.l1 k d e a b c).map ah.enc
 | _ => none⟩
def ah.p2 (k : Nat) : Pt := ⟨[.c [1, 1, 1, 1, 1, 1, 0, 0, 0, 1, 0, 1, 1, 0, 0, 0, 0, 0], .c [1, 1, 1, 1, 1, 1, 0, 0, 0, 1, 0, 1, 1, 0, 0, 0, 0, 1], .c [1, 1, 1, 1, 1, 1, 0, 0, 0, 1, 0, 1, 1, 0, 0, 0, 1], .l [1, 1, 1, 1, 1, 1, 0, 0, 0, 1, 0, 1, 1, 0, 0, 0], .b 4, .c [1, 1, 1, 1, 1, 1, 0, 0, 0, 1, 0, 1, 1, 1], .b 1, .l [1, 1, 1, 1, 1, 1, 0, 0, 0], .b 0, .c [1, 1, 1, 1, 1, 1, 1]], [(6, none, []), (7, none, [])], [], [(4, .u64, 22), (5, .u8, 5)], [], fun s => match s with
 | ⟨[(6, .v (.int .i64 a)), (7, .v (.int .u64 b)), (4, .own 4), (5, .own 5)], [(4, .ints .u64 22 c), (5, .ints .u8 5 d)]⟩ => (ah.l2 k c d a b).map ah.enc
 | _ => none⟩
def ah.p3 (k : Nat) : Pt := ⟨[.c [1, 1, 1, 1, 1, 1, 0, 0, 0, 1, 0, 1, 1, 1, 0], .c [1, 1, 1, 1, 1, 1, 0, 0, 0, 1, 0, 1, 1, 1, 1], .b 1, .l [1, 1, 1, 1, 1, 1, 0, 0, 0], .b 0, .c [1, 1, 1, 1, 1, 1, 1]], [(6, none, []), (7, none, [])], [], [(4, .u64, 22), (5, .u8, 5)], [], fun s => match s with
 | ⟨[(6, .v (.int .i64 a)), (7, .v (.int .u64 b)), (4, .own 4), (5, .own 5)], [(4, .ints .u64 22 c), (5, .ints .u8 5 d)]⟩ => (ah.j3 k c d a b).map ah.enc
 | _ => none⟩
def ah.p4 (k : Nat) : Pt := ⟨[.c [1, 1, 1, 1, 1, 1, 0, 0, 0, 1, 0, 1, 1, 1, 1, 0, 0, 0, 0], .c [1, 1, 1, 1, 1, 1, 0, 0, 0, 1, 0, 1, 1, 1, 1, 0, 0, 0, 1], .c [1, 1, 1, 1, 1, 1, 0, 0, 0, 1, 0, 1, 1, 1, 1, 0, 0, 1], .l [1, 1, 1, 1, 1, 1, 0, 0, 0, 1, 0, 1, 1, 1, 1, 0, 0], .b 6, .b 1, .l [1, 1, 1, 1, 1, 1, 0, 0, 0], .b 0, .c [1, 1, 1, 1, 1, 1, 1]], [(6, none, []), (7, none, []), (10, none, [])], [], [(4, .u64, 22), (5, .u8, 5)], [], fun s => match s with
 | ⟨[(6, .v (.int .i64 a)), (7, .v (.int .u64 b)), (10, .v (.int .i64 c)), (4, .own 4), (5, .own 5)], [(4, .ints .u64 22 d), (5, .ints .u8 5 e)]⟩ => (ah.l3 k d e a b c).map ah.enc
 | _ => none⟩
def ah.p5 (k : Nat) : Pt := ⟨[.c [1, 1, 1, 1, 1, 1, 1, 1, 0, 1, 0, 0, 0, 0], .c [1, 1, 1, 1, 1, 1, 1, 1, 0, 1, 0, 0, 0, 1], .c [1, 1, 1, 1, 1, 1, 1, 1, 0, 1, 0, 0, 1], .l [1, 1, 1, 1, 1, 1, 1, 1, 0, 1, 0, 0], .b 8, .c [1, 1, 1, 1, 1, 1, 1, 1, 1]], [(12, none, [])], [], [(5, .u8, 5), (11, .u8, 5)], [], fun s => match s with
 | ⟨[(12, .v (.int .i64 a)), (5, .own 5), (11, .own 11)], [(5, .ints .u8 5 b), (11, .ints .u8 5 c)]⟩ => (ah.l4 k b c a).map ah.enc
 | _ => none⟩
def ah.E (k : Nat) : Env := ⟨100, tys, [(151, aH.app k), (152, aX.app k)], [(8, ah.p0 k), (11, ah.p1 k), (16, ah.p2 k), (18, ah.p3 k), (19, ah.p4 k), (25, ah.p5 k)], [], false, [9, 3], false⟩
theorem ah.fok (k : Nat) : FO 68 f68 (dF f68) (ah.E k) := fo fV func68 ⟨aH.ok k, ⟨aX.ok k, trivial⟩⟩
theorem ah.s0 : jM f68 ah.E ah.p0 := fun k s r h => by
 dsimp only [ah.p0] at h
 split at h
 ·rename_i a b c
  rcases k with _ | k
  ·cases h
  exact ⟨k, rfl, via (if (decide (a > 0)) then (ah.l1 k b c a 0 (wrap64 (a - 1))).map ah.enc else if 0 ≤ (c.length : Int) then if ((c.length : Int) : Int).toNat * 1 ≤ 281474976710656 then (ah.l4 k c (List.replicate ((c.length : Int) : Int).toNat 0) 0).map ah.enc else none else none) (by rw [ah.l0] at h; exact Eq.trans (Eq.symm mt2) h)⟩
 ·cases h
theorem ah.s1 : jM f68 ah.E ah.p1 := fun k s r h => by
 dsimp only [ah.p1] at h
 split at h
 ·rename_i a b c d e
  rcases k with _ | k
  ·cases h
  exact ⟨k, rfl, via (if (decide (c ≥ 0)) then if (0 : Int) ≤ 32 then if 0 ≤ c then if c < (d.length : Int) then if (1000000000 : Int) = 0 then none else if 0 ≤ c then if c < (d.length : Int) then if (1000000000 : Int) = 0 then none else (ah.l1 k (d.set (c : Int).toNat (IntKind.wrap .u64 (Int.tdiv (Go.bits .or .u64 (shl .u64 b 32) (rd d c)) 1000000000))) e a (Int.tmod (Go.bits .or .u64 (shl .u64 b 32) (rd d c)) 1000000000) (wrap64 (c - 1))).map ah.enc else none else none else none else none else none else (ah.l2 k d e a b).map ah.enc) (by rw [ah.l1] at h; exact Eq.trans (Eq.symm mt2) h)⟩
 ·cases h
theorem ah.s2 : jM f68 ah.E ah.p2 := fun k s r h => by
 dsimp only [ah.p2] at h
 split at h
 ·rename_i a b c d
  rcases k with _ | k
  ·cases h
  exact ⟨k, rfl, via (if (decide (a > 0)) then if 0 ≤ wrap64 (a - 1) then if wrap64 (a - 1) < (c.length : Int) then if ((rd c (wrap64 (a - 1))) == 0) then (ah.l2 k c d (wrap64 (a - 1)) b).map ah.enc else (ah.j3 k c d a b).map ah.enc else none else none else (ah.j3 k c d a b).map ah.enc) (by rw [ah.l2] at h; exact Eq.trans (Eq.symm mt2) h)⟩
 ·cases h
theorem ah.s3 : jM f68 ah.E ah.p3 := fun k s r h => by
 dsimp only [ah.p3] at h
 split at h
 ·rename_i a b c d
  rcases k with _ | k
  ·cases h
  exact ⟨k, rfl, via ((ah.l3 k c d a b 0).map ah.enc) (by rw [ah.j3] at h; exact Eq.trans (Eq.symm mt2) h)⟩
 ·cases h
theorem ah.s4 : jM f68 ah.E ah.p4 := fun k s r h => by
 dsimp only [ah.p4] at h
 split at h
 ·rename_i a b c d e
  rcases k with _ | k
  ·cases h
  exact ⟨k, rfl, via (if (decide (c < 9)) then if (decide (a > 0)) = false then if (decide (b > 0)) then if (10 : Int) = 0 then none else if (e.length + ([(IntKind.wrap .u64 (48 + (Int.tmod b 10))) % 256] : List Int).length) * 1 ≤ 140737488355328 then if (10 : Int) = 0 then none else (ah.l3 k d (e ++ ([(IntKind.wrap .u64 (48 + (Int.tmod b 10))) % 256] : List Int)) a (IntKind.wrap .u64 (Int.tdiv b 10)) (wrap64 (c + 1))).map ah.enc else none else (ah.l0 k d e a).map ah.enc else if (10 : Int) = 0 then none else if (e.length + ([(IntKind.wrap .u64 (48 + (Int.tmod b 10))) % 256] : List Int).length) * 1 ≤ 140737488355328 then if (10 : Int) = 0 then none else (ah.l3 k d (e ++ ([(IntKind.wrap .u64 (48 + (Int.tmod b 10))) % 256] : List Int)) a (IntKind.wrap .u64 (Int.tdiv b 10)) (wrap64 (c + 1))).map ah.enc else none else (ah.l0 k d e a).map ah.enc) (by rw [ah.l3] at h; exact Eq.trans (Eq.symm mt2) h)⟩
 ·cases h
theorem ah.s5 : jM f68 ah.E ah.p5 := fun k s r h => by
 dsimp only [ah.p5] at h
 split at h
 ·rename_i a b c
  rcases k with _ | k
  ·cases h
  exact ⟨k, rfl, via (if (decide (a < (b.length : Int))) then if 0 ≤ wrap64 ((wrap64 ((b.length : Int) - 1)) - a) then if wrap64 ((wrap64 ((b.length : Int) - 1)) - a) < (b.length : Int) then if 0 ≤ a then if a < (c.length : Int) then (ah.l4 k b (c.set (a : Int).toNat (rd b (wrap64 ((wrap64 ((b.length : Int) - 1)) - a)))) (wrap64 (a + 1))).map ah.enc else none else none else none else none else some (.tup [sA (strOfNums c), iA 0])) (by rw [ah.l4] at h; exact Eq.trans (Eq.symm mt2) h)⟩
 ·cases h
theorem ah.pts : ∀ k, jI prog (dF f68) (ah.E k) GOk (Fin prog f68) := je stays mixed ah.fok [(8, ah.p0), (11, ah.p1), (16, ah.p2), (18, ah.p3), (19, ah.p4), (25, ah.p5)] ⟨ah.s0, ah.s1, ah.s2, ah.s3, ah.s4, ah.s5, trivial⟩
theorem ah.ok (k : Nat) : AO 68 (ah.app k) := eX stays mixed (ah.fok k) (ah.pts k) fun l K r h => by
 dsimp only [ah.app] at h
 split at h
 ·rename_i a
  exact fin (enc := ah.enc) h rfl fun y h => by
   exact via ((aH.f k a).bind fun b => if (decide (b > 1024)) then some (.tup [sA (⟨#[]⟩ : ByteArray), iA 5]) else (aH.f k a).bind fun c => if (c == 0) then some (.tup [sA (⟨#[48]⟩ : ByteArray), iA 0]) else (aX.f k a).bind fun d => (ah.l0 k d ([] : List Int) (d.length : Int)).map ah.enc) (by rw [ah.f] at h; exact Eq.trans (Eq.symm mt2) h)
 ·cases h
def aA.enc (r : List Int) : AV := .ro true .u64 r
def aA.app (k : Nat) : List AV → (AV → Option AV) → Option AV := fun l K => match l with
 | [.ro false .u64 a, .ro false .u64 b] => (aA.f k a b).bind fun r => K (aA.enc r)
 | _ => none
def aA.p0 (k : Nat) : Pt := ⟨[.c [1, 1, 1, 1, 0, 1, 0, 0, 0, 0], .c [1, 1, 1, 1, 0, 1, 0, 0, 0, 1], .c [1, 1, 1, 1, 0, 1, 0, 0, 1], .l [1, 1, 1, 1, 0, 1, 0, 0], .b 0, .c [1, 1, 1, 1, 1]], [(5, some .u64, []), (6, some .u64, []), (8, none, []), (4, some .u64, [])], [], [(7, .u64, 22)], [], fun s => match s with
 | ⟨[(5, .ro true .u64 a), (6, .ro true .u64 b), (8, .v (.int .i64 c)), (4, .ro true .u64 []), (7, .own 7)], [(7, .ints .u64 22 d)]⟩ => (aA.l0 k a b d c).map aA.enc
 | _ => none⟩
def aA.p1 (k : Nat) : Pt := ⟨[.c [1, 1, 1, 1, 0, 1, 0, 0, 1, 0, 0, 1, 0, 1, 0, 0, 0, 0], .c [1, 1, 1, 1, 0, 1, 0, 0, 1, 0, 0, 1, 0, 1, 0, 0, 0, 1], .c [1, 1, 1, 1, 0, 1, 0, 0, 1, 0, 0, 1, 0, 1, 0, 0, 1], .l [1, 1, 1, 1, 0, 1, 0, 0, 1, 0, 0, 1, 0, 1, 0, 0], .b 2, .c [1, 1, 1, 1, 0, 1, 0, 0, 1, 0, 0, 1, 1], .b 1, .c [1, 1, 1, 1, 0, 1, 0, 0, 1, 1], .l [1, 1, 1, 1, 0, 1, 0, 0], .b 0, .c [1, 1, 1, 1, 1]], [(5, some .u64, []), (6, some .u64, []), (8, none, []), (9, none, []), (10, none, []), (4, some .u64, [])], [], [(7, .u64, 22)], [], fun s => match s with
 | ⟨[(5, .ro true .u64 a), (6, .ro true .u64 b), (8, .v (.int .i64 c)), (9, .v (.int .u64 d)), (10, .v (.int .i64 e)), (4, .ro true .u64 []), (7, .own 7)], [(7, .ints .u64 22 f)]⟩ => (aA.l1 k a b f c d e).map aA.enc
 | _ => none⟩
def aA.E (k : Nat) : Env := ⟨73, tys, [(152, aX.app k), (150, bg.app k)], [(5, aA.p0 k), (9, aA.p1 k)], [(11, [0, 1, 2, 3, 4, 5, 6, 7, 8, 9, 10, 11, 12, 13, 14, 15, 16, 17, 18])], false, [73], false⟩
theorem aA.fok (k : Nat) : FO 153 f153 (dF f153) (aA.E k) := fo fV func153 ⟨aX.ok k, ⟨bg.ok k, trivial⟩⟩
theorem aA.s0 : jM f153 aA.E aA.p0 := fun k s r h => by
 dsimp only [aA.p0] at h
 split at h
 ·rename_i a b c d
  rcases k with _ | k
  ·cases h
  exact ⟨k, rfl, via (if (decide (c < (a.length : Int))) then (aA.l1 k a b d c 0 0).map aA.enc else (bg.f k d).bind fun e => some (rA e)) (by rw [aA.l0] at h; exact Eq.trans (Eq.symm mt2) h)⟩
 ·cases h
theorem aA.s1 : jM f153 aA.E aA.p1 := fun k s r h => by
 dsimp only [aA.p1] at h
 split at h
 ·rename_i a b c d e f
  rcases k with _ | k
  ·cases h
  exact ⟨k, rfl, via (if (decide (e < (b.length : Int))) then if 0 ≤ c then if c < (a.length : Int) then if 0 ≤ e then if e < (b.length : Int) then if 0 ≤ wrap64 (c + e) then if wrap64 (c + e) < (f.length : Int) then if 0 ≤ wrap64 (c + e) then if wrap64 (c + e) < (f.length : Int) then if (0 : Int) ≤ 32 then (aA.l1 k a b (f.set (wrap64 (c + e) : Int).toNat (Go.bits .and .u64 (IntKind.wrap .u64 ((IntKind.wrap .u64 ((IntKind.wrap .u64 ((rd a c) * (rd b e))) + (rd f (wrap64 (c + e))))) + d)) 4294967295)) c (shr .u64 (IntKind.wrap .u64 ((IntKind.wrap .u64 ((IntKind.wrap .u64 ((rd a c) * (rd b e))) + (rd f (wrap64 (c + e))))) + d)) 32) (wrap64 (e + 1))).map aA.enc else none else none else none else none else none else none else none else none else none else if (decide ((b.length : Int) > 0)) then if 0 ≤ wrap64 (c + (b.length : Int)) then if wrap64 (c + (b.length : Int)) < (f.length : Int) then (aA.l0 k a b (f.set (wrap64 (c + (b.length : Int)) : Int).toNat d) (wrap64 (c + 1))).map aA.enc else none else none else (aA.l0 k a b f (wrap64 (c + 1))).map aA.enc) (by rw [aA.l1] at h; exact Eq.trans (Eq.symm mt2) h)⟩
 ·cases h
theorem aA.pts : ∀ k, jI prog (dF f153) (aA.E k) GOk (Fin prog f153) := je stays mixed aA.fok [(5, aA.p0), (9, aA.p1)] ⟨aA.s0, aA.s1, trivial⟩
theorem aA.ok (k : Nat) : AO 153 (aA.app k) := eX stays mixed (aA.fok k) (aA.pts k) fun l K r h => by
 dsimp only [aA.app] at h
 split at h
 ·rename_i a b
  exact fin (enc := aA.enc) h rfl fun y h => by
   exact via ((aX.f k a).bind fun c => (aX.f k b).bind fun d => if 0 ≤ wrap64 ((c.length : Int) + (d.length : Int)) then if (wrap64 ((c.length : Int) + (d.length : Int)) : Int).toNat * 8 ≤ 281474976710656 then (aA.l0 k c d (List.replicate (wrap64 ((c.length : Int) + (d.length : Int)) : Int).toNat 0) 0).map aA.enc else none else none) (by rw [aA.f] at h; exact Eq.trans (Eq.symm mt2) h)
 ·cases h
def bQ.enc (r : List Int) : AV := .ro true .u64 r
def bQ.app (k : Nat) : List AV → (AV → Option AV) → Option AV := fun l K => match l with
 | [.ro false .u64 a, .ro false .u64 b] => (bQ.f k a b).bind fun r => K (bQ.enc r)
 | _ => none
def bQ.E (k : Nat) : Env := ⟨8, tys, [(153, aA.app k)], [], [], false, [73], false⟩
theorem bQ.fok (k : Nat) : FO 69 f69 (dF f69) (bQ.E k) := fo fV func69 ⟨aA.ok k, trivial⟩
theorem bQ.ok (k : Nat) : AO 69 (bQ.app k) := eX stays mixed (bQ.fok k) (dX rfl) fun l K r h => by
 dsimp only [bQ.app] at h
 split at h
 ·rename_i a b
  exact fin (enc := bQ.enc) h rfl fun y h => by
   exact via ((aA.f k a b).bind fun c => some (rA c)) (by rw [bQ.f] at h; exact Eq.trans (Eq.symm mt2) h)
 ·cases h
def au.enc (r : List Int × Int) : AV := .tup [.ro true .u64 r.1, .v (.int .i64 r.2)]
def au.app (k : Nat) : List AV → (AV → Option AV) → Option AV := fun l K => match l with
 | [.v (.int .u64 a), .v (.int .i64 b)] => (au.f k a b).bind fun r => K (au.enc r)
 | _ => none
def au.p0 (k : Nat) : Pt := ⟨[.c [1, 1, 1, 0, 1, 0, 0, 0, 0], .c [1, 1, 1, 0, 1, 0, 0, 0, 1], .c [1, 1, 1, 0, 1, 0, 0, 1], .l [1, 1, 1, 0, 1, 0, 0], .b 0, .c [1, 1, 1, 1]], [(0, none, []), (1, none, []), (6, some .u64, []), (7, none, [])], [], [], [], fun s => match s with
 | ⟨[(0, .v (.int .u64 a)), (1, .v (.int .i64 b)), (6, .ro true .u64 c), (7, .v (.int .i64 d))], []⟩ => (au.l0 k a b c d).map au.enc
 | _ => none⟩
def au.p1 (k : Nat) : Pt := ⟨[.c [1, 0, 1], .c [1, 1]], [(0, none, []), (1, none, []), (13, none, [])], [], [], [], fun s => match s with
 | ⟨[(0, .v (.int .u64 a)), (1, .v (.int .i64 b)), (13, .v (.bool c))], []⟩ => (au.j0 k a b c).map au.enc
 | _ => none⟩
def au.p2 (k : Nat) : Pt := ⟨[.c [1, 1, 1, 0, 1, 0, 0, 0, 1], .c [1, 1, 1, 0, 1, 0, 0, 1], .l [1, 1, 1, 0, 1, 0, 0], .b 0, .c [1, 1, 1, 1]], [(0, none, []), (1, none, []), (6, some .u64, []), (7, none, []), (21, none, [])], [], [], [], fun s => match s with
 | ⟨[(0, .v (.int .u64 a)), (1, .v (.int .i64 b)), (6, .ro true .u64 c), (7, .v (.int .i64 d)), (21, .v (.bool e))], []⟩ => (au.j2 k a b c d e).map au.enc
 | _ => none⟩
def au.E (k : Nat) : Env := ⟨36, tys, [(153, aA.app k)], [(5, au.p0 k), (100013, au.p1 k), (100021, au.p2 k)], [], false, [73, 3], false⟩
theorem au.fok (k : Nat) : FO 95 f95 (dF f95) (au.E k) := fo fV func95 ⟨aA.ok k, trivial⟩
theorem au.s0 : jM f95 au.E au.p0 := fun k s r h => by
 dsimp only [au.p0] at h
 split at h
 ·rename_i a b c d
  rcases k with _ | k
  ·cases h
  exact ⟨k, rfl, via (if (decide (d < b)) then (au.j2 k a b c d (a != 1)).map au.enc else (au.j2 k a b c d false).map au.enc) (by rw [au.l0] at h; exact Eq.trans (Eq.symm mt2) h)⟩
 ·cases h
theorem au.s1 : jM f95 au.E au.p1 := fun k s r h => by
 dsimp only [au.p1] at h
 split at h
 ·rename_i a b c
  rcases k with _ | k
  ·cases h
  exact ⟨k, rfl, via (if c then some (.tup [rA ([] : List Int), iA 7]) else (au.l0 k a b ([1] : List Int) 0).map au.enc) (by rw [au.j0] at h; exact Eq.trans (Eq.symm mt2) h)⟩
 ·cases h
theorem au.s2 : jM f95 au.E au.p2 := fun k s r h => by
 dsimp only [au.p2] at h
 split at h
 ·rename_i a b c d e
  rcases k with _ | k
  ·cases h
  exact ⟨k, rfl, via (if e then (aA.f k c ([a] : List Int)).bind fun f => if (decide ((f.length : Int) > 1024)) then some (.tup [rA ([] : List Int), iA 5]) else if ((f.length : Int) == 0) then some (.tup [rA f, iA 0]) else (au.l0 k a b f (wrap64 (d + 1))).map au.enc else some (.tup [rA c, iA 0])) (by rw [au.j2] at h; exact Eq.trans (Eq.symm mt2) h)⟩
 ·cases h
theorem au.pts : ∀ k, jI prog (dF f95) (au.E k) GOk (Fin prog f95) := je stays mixed au.fok [(5, au.p0), (100013, au.p1), (100021, au.p2)] ⟨au.s0, au.s1, au.s2, trivial⟩
theorem au.ok (k : Nat) : AO 95 (au.app k) := eX stays mixed (au.fok k) (au.pts k) fun l K r h => by
 dsimp only [au.app] at h
 split at h
 ·rename_i a b
  exact fin (enc := au.enc) h rfl fun y h => by
   exact via (if (decide (b < 0)) = false then (au.j0 k a b (decide (b > 20000))).map au.enc else (au.j0 k a b true).map au.enc) (by rw [au.f] at h; exact Eq.trans (Eq.symm mt2) h)
 ·cases h
def dQ.enc (r : List Int) : AV := .ro true .u64 r
def dQ.app (k : Nat) : List AV → (AV → Option AV) → Option AV := fun l K => match l with
 | [.v (.int .i64 a)] => (dQ.f k a).bind fun r => K (dQ.enc r)
 | _ => none
def dQ.E (k : Nat) : Env := ⟨11, tys, [(95, au.app k)], [], [], false, [73], false⟩
theorem dQ.fok (k : Nat) : FO 70 f70 (dF f70) (dQ.E k) := fo fV func70 ⟨au.ok k, trivial⟩
theorem dQ.ok (k : Nat) : AO 70 (dQ.app k) := eX stays mixed (dQ.fok k) (dX rfl) fun l K r h => by
 dsimp only [dQ.app] at h
 split at h
 ·rename_i a
  exact fin (enc := dQ.enc) h rfl fun y h => by
   exact via ((au.f k 10 a).bind fun b => some (rA b.1)) (by rw [dQ.f] at h; exact Eq.trans (Eq.symm mt2) h)
 ·cases h
def aN.enc (r : Int) : AV := .v (.int .i64 r)
def aN.app (k : Nat) : List AV → (AV → Option AV) → Option AV := fun l K => match l with
 | [.ro false .u64 a] => (aN.f k a).bind fun r => K (aN.enc r)
 | _ => none
def aN.p0 (k : Nat) : Pt := ⟨[.c [1, 1, 1, 1, 0, 1, 0, 0, 0, 0], .c [1, 1, 1, 1, 0, 1, 0, 0, 0, 1], .c [1, 1, 1, 1, 0, 1, 0, 0, 1], .l [1, 1, 1, 1, 0, 1, 0, 0], .b 0, .c [1, 1, 1, 1, 1]], [(3, none, []), (4, none, []), (5, none, [])], [], [], [], fun s => match s with
 | ⟨[(3, .v (.int .i64 a)), (4, .v (.int .i64 b)), (5, .v (.int .u64 c))], []⟩ => (aN.l0 k a b c).map aN.enc
 | _ => none⟩
def aN.E (k : Nat) : Env := ⟨26, tys, [(151, aH.app k)], [(6, aN.p0 k)], [], false, [3], false⟩
theorem aN.fok (k : Nat) : FO 94 f94 (dF f94) (aN.E k) := fo fV func94 ⟨aH.ok k, trivial⟩
theorem aN.s0 : jM f94 aN.E aN.p0 := fun k s r h => by
 dsimp only [aN.p0] at h
 split at h
 ·rename_i a b c
  rcases k with _ | k
  ·cases h
  exact ⟨k, rfl, via (if (decide (c > 0)) then if (0 : Int) ≤ 1 then (aN.l0 k a (wrap64 (b + 1)) (shr .u64 c 1)).map aN.enc else none else some (iA (wrap64 ((wrap64 (64 * (wrap64 (a - 1)))) + b)))) (by rw [aN.l0] at h; exact Eq.trans (Eq.symm mt2) h)⟩
 ·cases h
theorem aN.pts : ∀ k, jI prog (dF f94) (aN.E k) GOk (Fin prog f94) := je stays mixed aN.fok [(6, aN.p0)] ⟨aN.s0, trivial⟩
theorem aN.ok (k : Nat) : AO 94 (aN.app k) := eX stays mixed (aN.fok k) (aN.pts k) fun l K r h => by
 dsimp only [aN.app] at h
 split at h
 ·rename_i a
  exact fin (enc := aN.enc) h rfl fun y h => by
   exact via ((aH.f k a).bind fun b => if (b == 0) then some (iA 0) else if 0 ≤ wrap64 (b - 1) then if wrap64 (b - 1) < (a.length : Int) then (aN.l0 k b 0 (rd a (wrap64 (b - 1)))).map aN.enc else none else none) (by rw [aN.f] at h; exact Eq.trans (Eq.symm mt2) h)
 ·cases h
def dP.enc (r : Int) : AV := .v (.int .u64 r)
def dP.app : List AV → (AV → Option AV) → Option AV := fun l K => match l with
 | [.v (.bool a)] => (dP.f a).bind fun r => K (dP.enc r)
 | _ => none
def dP.E : Env := ⟨4, tys, [], [], [], false, [22], false⟩
theorem dP.fok : FO 155 f155 (dF f155) (dP.E) := fo fV func155 trivial
theorem dP.ok : AO 155 (dP.app) := eX stays mixed (dP.fok) (dX rfl) fun l K r h => by
 dsimp only [dP.app] at h
 split at h
 ·rename_i a
  exact fin (enc := dP.enc) h rfl fun y h => by
   exact via (if a then some (uA 1) else some (uA 0)) (by rw [dP.f] at h; exact Eq.trans (Eq.symm mt2) h)
 ·cases h
def bH.enc (r : List Int) : AV := .ro true .u64 r
def bH.app (k : Nat) : List AV → (AV → Option AV) → Option AV := fun l K => match l with
 | [.ro false .u64 a, .v (.int .i64 b)] => (bH.f k a b).bind fun r => K (bH.enc r)
 | _ => none
def bH.p0 (k : Nat) : Pt := ⟨[.c [1, 1, 1, 0, 1, 0, 0, 0, 0], .c [1, 1, 1, 0, 1, 0, 0, 0, 1], .c [1, 1, 1, 0, 1, 0, 0, 1], .l [1, 1, 1, 0, 1, 0, 0], .b 0, .c [1, 1, 1, 1]], [(0, some .u64, [false]), (1, none, []), (5, none, []), (7, none, []), (4, some .u64, [])], [], [(6, .u64, 22)], [], fun s => match s with
 | ⟨[(0, .ro false .u64 a), (1, .v (.int .i64 b)), (5, .v (.int .i64 c)), (7, .v (.int .i64 d)), (4, .ro true .u64 []), (6, .own 6)], [(6, .ints .u64 22 e)]⟩ => (bH.l0 k a b c e d).map bH.enc
 | _ => none⟩
def bH.E (k : Nat) : Env := ⟨64, tys, [(151, aH.app k), (154, bI.app)], [(4, bH.p0 k)], [(6, [0, 1, 2, 3, 4, 5, 6, 7, 8, 9, 10, 11, 12, 13, 14, 15, 16, 17, 18, 19, 20, 21, 22])], false, [73], false⟩
theorem bH.fok (k : Nat) : FO 219 f219 (dF f219) (bH.E k) := fo fV func219 ⟨aH.ok k, ⟨bI.ok, trivial⟩⟩
theorem bH.s0 : jM f219 bH.E bH.p0 := fun k s r h => by
 dsimp only [bH.p0] at h
 split at h
 ·rename_i a b c d e
  rcases k with _ | k
  ·cases h
  exact ⟨k, rfl, via (if (decide (d < c)) then if (64 : Int) = 0 then none else if (64 : Int) = 0 then none else if 0 ≤ wrap64 (d + (wrap64 (Int.tdiv b 64))) then if wrap64 (d + (wrap64 (Int.tdiv b 64))) < (e.length : Int) then if 0 ≤ d then if d < (a.length : Int) then if (64 : Int) = 0 then none else if 0 ≤ IntKind.wrap .u64 (Int.tmod b 64) then if 0 ≤ wrap64 (d + (wrap64 (Int.tdiv b 64))) then if wrap64 (d + (wrap64 (Int.tdiv b 64))) < (e.length : Int) then if (64 : Int) = 0 then none else if (decide ((Int.tmod b 64) > 0)) then if (64 : Int) = 0 then none else if 0 ≤ d then if d < (a.length : Int) then if (64 : Int) = 0 then none else if 0 ≤ IntKind.wrap .u64 (wrap64 (64 - (Int.tmod b 64))) then if 0 ≤ wrap64 ((wrap64 (d + (wrap64 (Int.tdiv b 64)))) + 1) then if wrap64 ((wrap64 (d + (wrap64 (Int.tdiv b 64)))) + 1) < ((e.set (wrap64 (d + (wrap64 (Int.tdiv b 64))) : Int).toNat (Go.bits .or .u64 (rd e (wrap64 (d + (wrap64 (Int.tdiv b 64))))) (shl .u64 (rd a d) (IntKind.wrap .u64 (Int.tmod b 64))))).length : Int) then (bH.l0 k a b c ((e.set (wrap64 (d + (wrap64 (Int.tdiv b 64))) : Int).toNat (Go.bits .or .u64 (rd e (wrap64 (d + (wrap64 (Int.tdiv b 64))))) (shl .u64 (rd a d) (IntKind.wrap .u64 (Int.tmod b 64))))).set (wrap64 ((wrap64 (d + (wrap64 (Int.tdiv b 64)))) + 1) : Int).toNat (shr .u64 (rd a d) (IntKind.wrap .u64 (wrap64 (64 - (Int.tmod b 64)))))) (wrap64 (d + 1))).map bH.enc else none else none else none else none else none else (bH.l0 k a b c (e.set (wrap64 (d + (wrap64 (Int.tdiv b 64))) : Int).toNat (Go.bits .or .u64 (rd e (wrap64 (d + (wrap64 (Int.tdiv b 64))))) (shl .u64 (rd a d) (IntKind.wrap .u64 (Int.tmod b 64))))) (wrap64 (d + 1))).map bH.enc else none else none else none else none else none else none else none else (bI.f e).bind fun f => some (rA f)) (by rw [bH.l0] at h; exact Eq.trans (Eq.symm mt2) h)⟩
 ·cases h
theorem bH.pts : ∀ k, jI prog (dF f219) (bH.E k) GOk (Fin prog f219) := je stays mixed bH.fok [(4, bH.p0)] ⟨bH.s0, trivial⟩
theorem bH.ok (k : Nat) : AO 219 (bH.app k) := eX stays mixed (bH.fok k) (bH.pts k) fun l K r h => by
 dsimp only [bH.app] at h
 split at h
 ·rename_i a b
  exact fin (enc := bH.enc) h rfl fun y h => by
   exact via ((aH.f k a).bind fun c => if (64 : Int) = 0 then none else if 0 ≤ wrap64 ((wrap64 (c + (wrap64 (Int.tdiv b 64)))) + 1) then if (wrap64 ((wrap64 (c + (wrap64 (Int.tdiv b 64)))) + 1) : Int).toNat * 8 ≤ 281474976710656 then (bH.l0 k a b c (List.replicate (wrap64 ((wrap64 (c + (wrap64 (Int.tdiv b 64)))) + 1) : Int).toNat 0) 0).map bH.enc else none else none) (by rw [bH.f] at h; exact Eq.trans (Eq.symm mt2) h)
 ·cases h
def dB.enc (r : List Int) : AV := .ro true .u64 r
def dB.app (k : Nat) : List AV → (AV → Option AV) → Option AV := fun l K => match l with
 | [.ro false .u64 a, .v (.int .i64 b)] => (dB.f k a b).bind fun r => K (dB.enc r)
 | _ => none
def dB.E (k : Nat) : Env := ⟨8, tys, [(219, bH.app k)], [], [], false, [73], false⟩
theorem dB.fok (k : Nat) : FO 166 f166 (dF f166) (dB.E k) := fo fV func166 ⟨bH.ok k, trivial⟩
theorem dB.ok (k : Nat) : AO 166 (dB.app k) := eX stays mixed (dB.fok k) (dX rfl) fun l K r h => by
 dsimp only [dB.app] at h
 split at h
 ·rename_i a b
  exact fin (enc := dB.enc) h rfl fun y h => by
   exact via ((bH.f k a b).bind fun c => some (rA c)) (by rw [dB.f] at h; exact Eq.trans (Eq.symm mt2) h)
 ·cases h
def fC.enc (r : Int) : AV := .v (.int .u64 r)
def fC.app : List AV → (AV → Option AV) → Option AV := fun l K => match l with
 | [.ro false .u64 a, .v (.int .i64 b)] => (fC.f a b).bind fun r => K (fC.enc r)
 | _ => none
def fC.E : Env := ⟨13, tys, [], [], [], false, [22], false⟩
theorem fC.fok : FO 169 f169 (dF f169) (fC.E) := fo fV func169 trivial
theorem fC.ok : AO 169 (fC.app) := eX stays mixed (fC.fok) (dX rfl) fun l K r h => by
 dsimp only [fC.app] at h
 split at h
 ·rename_i a b
  exact fin (enc := fC.enc) h rfl fun y h => by
   exact via (if (decide (b < (a.length : Int))) then if 0 ≤ b then if b < (a.length : Int) then some (uA (rd a b)) else none else none else some (uA 0)) (by rw [fC.f] at h; exact Eq.trans (Eq.symm mt2) h)
 ·cases h
def ak.enc (r : List Int) : AV := .ro true .u64 r
def ak.app (k : Nat) : List AV → (AV → Option AV) → Option AV := fun l K => match l with
 | [.ro false .u64 a, .ro false .u64 b] => (ak.f k a b).bind fun r => K (ak.enc r)
 | _ => none
def ak.p0 (k : Nat) : Pt := ⟨[.c [1, 1, 1, 0], .c [1, 1, 1, 1]], [(0, some .u64, [false]), (1, some .u64, [false]), (5, none, [])], [], [], [], fun s => match s with
 | ⟨[(0, .ro false .u64 a), (1, .ro false .u64 b), (5, .v (.int .i64 c))], []⟩ => (ak.j0 k a b c).map ak.enc
 | _ => none⟩
def ak.p1 (k : Nat) : Pt := ⟨[.c [1, 1, 1, 1, 1, 0, 1, 0, 0, 0, 0], .c [1, 1, 1, 1, 1, 0, 1, 0, 0, 0, 1], .c [1, 1, 1, 1, 1, 0, 1, 0, 0, 1], .l [1, 1, 1, 1, 1, 0, 1, 0, 0], .b 0, .c [1, 1, 1, 1, 1, 1]], [(0, some .u64, [false]), (1, some .u64, [false]), (5, none, []), (7, none, []), (8, none, [])], [], [(6, .u64, 22)], [], fun s => match s with
 | ⟨[(0, .ro false .u64 a), (1, .ro false .u64 b), (5, .v (.int .i64 c)), (7, .v (.int .u64 d)), (8, .v (.int .i64 e)), (6, .own 6)], [(6, .ints .u64 22 f)]⟩ => (ak.l0 k a b c f d e).map ak.enc
 | _ => none⟩
def ak.E (k : Nat) : Env := ⟨57, tys, [(151, aH.app k), (169, fC.app), (154, bI.app)], [(4, ak.p0 k), (7, ak.p1 k)], [], false, [73], false⟩
theorem ak.fok (k : Nat) : FO 84 f84 (dF f84) (ak.E k) := fo fV func84 ⟨aH.ok k, ⟨fC.ok, ⟨bI.ok, trivial⟩⟩⟩
theorem ak.s0 : jM f84 ak.E ak.p0 := fun k s r h => by
 dsimp only [ak.p0] at h
 split at h
 ·rename_i a b c
  rcases k with _ | k
  ·cases h
  exact ⟨k, rfl, via (if 0 ≤ wrap64 (c + 1) then if (wrap64 (c + 1) : Int).toNat * 8 ≤ 281474976710656 then (ak.l0 k a b c (List.replicate (wrap64 (c + 1) : Int).toNat 0) 0 0).map ak.enc else none else none) (by rw [ak.j0] at h; exact Eq.trans (Eq.symm mt2) h)⟩
 ·cases h
theorem ak.s1 : jM f84 ak.E ak.p1 := fun k s r h => by
 dsimp only [ak.p1] at h
 split at h
 ·rename_i a b c d e f
  rcases k with _ | k
  ·cases h
  exact ⟨k, rfl, via (if (decide (e < c)) then (fC.f a e).bind fun g => (fC.f b e).bind fun i => if (decide ((IntKind.wrap .u64 (g + i)) < g)) = false then if (decide ((IntKind.wrap .u64 ((IntKind.wrap .u64 (g + i)) + d)) < (IntKind.wrap .u64 (g + i)))) then if 0 ≤ e then if e < (f.length : Int) then (ak.l0 k a b c (f.set (e : Int).toNat (IntKind.wrap .u64 ((IntKind.wrap .u64 (g + i)) + d))) 1 (wrap64 (e + 1))).map ak.enc else none else none else if 0 ≤ e then if e < (f.length : Int) then (ak.l0 k a b c (f.set (e : Int).toNat (IntKind.wrap .u64 ((IntKind.wrap .u64 (g + i)) + d))) 0 (wrap64 (e + 1))).map ak.enc else none else none else if 0 ≤ e then if e < (f.length : Int) then (ak.l0 k a b c (f.set (e : Int).toNat (IntKind.wrap .u64 ((IntKind.wrap .u64 (g + i)) + d))) 1 (wrap64 (e + 1))).map ak.enc else none else none else if 0 ≤ c then if c < (f.length : Int) then (bI.f (f.set (c : Int).toNat d)).bind fun j => some (rA j) else none else none) (by rw [ak.l0] at h; exact Eq.trans (Eq.symm mt2) h)⟩
 ·cases h
theorem ak.pts : ∀ k, jI prog (dF f84) (ak.E k) GOk (Fin prog f84) := je stays mixed ak.fok [(4, ak.p0), (7, ak.p1)] ⟨ak.s0, ak.s1, trivial⟩
theorem ak.ok (k : Nat) : AO 84 (ak.app k) := eX stays mixed (ak.fok k) (ak.pts k) fun l K r h => by
 dsimp only [ak.app] at h
 split at h
 ·rename_i a b
  exact fin (enc := ak.enc) h rfl fun y h => by
   exact via ((aH.f k a).bind fun c => (aH.f k b).bind fun d => if (decide (d > c)) then (aH.f k b).bind fun e => (ak.j0 k a b e).map ak.enc else (ak.j0 k a b c).map ak.enc) (by rw [ak.f] at h; exact Eq.trans (Eq.symm mt2) h)
 ·cases h
def aU.enc (r : Int) : AV := .v (.int .i64 r)
def aU.app (k : Nat) : List AV → (AV → Option AV) → Option AV := fun l K => match l with
 | [.ro false .u64 a, .ro false .u64 b] => (aU.f k a b).bind fun r => K (aU.enc r)
 | _ => none
def aU.p0 (k : Nat) : Pt := ⟨[.c [1, 1, 1, 1, 0, 1, 0, 0, 0, 0], .c [1, 1, 1, 1, 0, 1, 0, 0, 0, 1], .c [1, 1, 1, 1, 0, 1, 0, 0, 1], .l [1, 1, 1, 1, 0, 1, 0, 0], .b 0, .c [1, 1, 1, 1, 1]], [(0, some .u64, [false]), (1, some .u64, [false]), (7, none, [])], [], [], [], fun s => match s with
 | ⟨[(0, .ro false .u64 a), (1, .ro false .u64 b), (7, .v (.int .i64 c))], []⟩ => (aU.l0 k a b c).map aU.enc
 | _ => none⟩
def aU.E (k : Nat) : Env := ⟨42, tys, [(151, aH.app k)], [(8, aU.p0 k)], [(10, [0, 1, 2, 3, 4, 5, 6, 7, 8]), (12, [0, 1, 2, 3, 4, 5, 6, 7, 8])], false, [3], false⟩
theorem aU.fok (k : Nat) : FO 168 f168 (dF f168) (aU.E k) := fo fV func168 ⟨aH.ok k, trivial⟩
theorem aU.s0 : jM f168 aU.E aU.p0 := fun k s r h => by
 dsimp only [aU.p0] at h
 split at h
 ·rename_i a b c
  rcases k with _ | k
  ·cases h
  exact ⟨k, rfl, via (if (decide (c ≥ 0)) then if 0 ≤ c then if c < (a.length : Int) then if 0 ≤ c then if c < (b.length : Int) then if (decide ((rd a c) < (rd b c))) then some (iA (-1)) else if 0 ≤ c then if c < (a.length : Int) then if 0 ≤ c then if c < (b.length : Int) then if (decide ((rd a c) > (rd b c))) then some (iA 1) else (aU.l0 k a b (wrap64 (c - 1))).map aU.enc else none else none else none else none else none else none else none else none else some (iA 0)) (by rw [aU.l0] at h; exact Eq.trans (Eq.symm mt2) h)⟩
 ·cases h
theorem aU.pts : ∀ k, jI prog (dF f168) (aU.E k) GOk (Fin prog f168) := je stays mixed aU.fok [(8, aU.p0)] ⟨aU.s0, trivial⟩
theorem aU.ok (k : Nat) : AO 168 (aU.app k) := eX stays mixed (aU.fok k) (aU.pts k) fun l K r h => by
 dsimp only [aU.app] at h
 split at h
 ·rename_i a b
  exact fin (enc := aU.enc) h rfl fun y h => by
   exact via ((aH.f k a).bind fun c => (aH.f k b).bind fun d => if (c != d) then if (decide (c < d)) then some (iA (-1)) else some (iA 1) else (aU.l0 k a b (wrap64 (d - 1))).map aU.enc) (by rw [aU.f] at h; exact Eq.trans (Eq.symm mt2) h)
 ·cases h
def eU.enc (r : Int) : AV := .v (.int .u64 r)
def eU.app : List AV → (AV → Option AV) → Option AV := fun l K => match l with
 | [.ro false .u64 a, .v (.int .i64 b)] => (eU.f a b).bind fun r => K (eU.enc r)
 | _ => none
def eU.E : Env := ⟨24, tys, [], [], [], false, [22], false⟩
theorem eU.fok : FO 216 f216 (dF f216) (eU.E) := fo fV func216 trivial
theorem eU.ok : AO 216 (eU.app) := eX stays mixed (eU.fok) (dX rfl) fun l K r h => by
 dsimp only [eU.app] at h
 split at h
 ·rename_i a b
  exact fin (enc := eU.enc) h rfl fun y h => by
   exact via (if (decide (b < 0)) = false then if (64 : Int) = 0 then none else if (decide ((wrap64 (Int.tdiv b 64)) ≥ (a.length : Int))) then some (uA 0) else if (64 : Int) = 0 then none else if 0 ≤ wrap64 (Int.tdiv b 64) then if wrap64 (Int.tdiv b 64) < (a.length : Int) then if (64 : Int) = 0 then none else if 0 ≤ IntKind.wrap .u64 (Int.tmod b 64) then some (uA (Go.bits .and .u64 (shr .u64 (rd a (wrap64 (Int.tdiv b 64))) (IntKind.wrap .u64 (Int.tmod b 64))) 1)) else none else none else none else some (uA 0)) (by rw [eU.f] at h; exact Eq.trans (Eq.symm mt2) h)
 ·cases h
def bC.enc (r : List Int) : AV := .ro true .u64 r
def bC.app (k : Nat) : List AV → (AV → Option AV) → Option AV := fun l K => match l with
 | [.ro false .u64 a, .v (.int .i64 b)] => (bC.f k a b).bind fun r => K (bC.enc r)
 | _ => none
def bC.p0 (k : Nat) : Pt := ⟨[.c [1, 1, 1, 1, 0, 1, 0, 0, 0, 0], .c [1, 1, 1, 1, 0, 1, 0, 0, 0, 1], .c [1, 1, 1, 1, 0, 1, 0, 0, 1], .l [1, 1, 1, 1, 0, 1, 0, 0], .b 0, .c [1, 1, 1, 1, 1]], [(0, some .u64, [false]), (1, none, []), (5, none, []), (7, none, []), (4, some .u64, [])], [], [(6, .u64, 22)], [], fun s => match s with
 | ⟨[(0, .ro false .u64 a), (1, .v (.int .i64 b)), (5, .v (.int .i64 c)), (7, .v (.int .i64 d)), (4, .ro true .u64 []), (6, .own 6)], [(6, .ints .u64 22 e)]⟩ => (bC.l0 k a b c e d).map bC.enc
 | _ => none⟩
def bC.E (k : Nat) : Env := ⟨74, tys, [(94, aN.app k), (151, aH.app k), (154, bI.app)], [(6, bC.p0 k)], [(10, [0, 1, 2, 3, 4, 5, 6, 7, 8, 9, 10, 11, 12, 13, 14, 15, 16, 17, 18, 19, 20, 21])], false, [73], false⟩
theorem bC.fok (k : Nat) : FO 253 f253 (dF f253) (bC.E k) := fo fV func253 ⟨aN.ok k, ⟨aH.ok k, ⟨bI.ok, trivial⟩⟩⟩
theorem bC.s0 : jM f253 bC.E bC.p0 := fun k s r h => by
 dsimp only [bC.p0] at h
 split at h
 ·rename_i a b c d e
  rcases k with _ | k
  ·cases h
  exact ⟨k, rfl, via (if (decide (d < (e.length : Int))) then if (64 : Int) = 0 then none else if 0 ≤ wrap64 (d + (wrap64 (Int.tdiv b 64))) then if wrap64 (d + (wrap64 (Int.tdiv b 64))) < (a.length : Int) then if (64 : Int) = 0 then none else if 0 ≤ IntKind.wrap .u64 (Int.tmod b 64) then if 0 ≤ d then if d < (e.length : Int) then if (64 : Int) = 0 then none else if (decide ((Int.tmod b 64) > 0)) then if (64 : Int) = 0 then none else if (decide ((wrap64 ((wrap64 (d + (wrap64 (Int.tdiv b 64)))) + 1)) < c)) then if 0 ≤ d then if d < ((e.set (d : Int).toNat (shr .u64 (rd a (wrap64 (d + (wrap64 (Int.tdiv b 64))))) (IntKind.wrap .u64 (Int.tmod b 64)))).length : Int) then if (64 : Int) = 0 then none else if 0 ≤ wrap64 ((wrap64 (d + (wrap64 (Int.tdiv b 64)))) + 1) then if wrap64 ((wrap64 (d + (wrap64 (Int.tdiv b 64)))) + 1) < (a.length : Int) then if (64 : Int) = 0 then none else if 0 ≤ IntKind.wrap .u64 (wrap64 (64 - (Int.tmod b 64))) then if 0 ≤ d then if d < ((e.set (d : Int).toNat (shr .u64 (rd a (wrap64 (d + (wrap64 (Int.tdiv b 64))))) (IntKind.wrap .u64 (Int.tmod b 64)))).length : Int) then (bC.l0 k a b c ((e.set (d : Int).toNat (shr .u64 (rd a (wrap64 (d + (wrap64 (Int.tdiv b 64))))) (IntKind.wrap .u64 (Int.tmod b 64)))).set (d : Int).toNat (Go.bits .or .u64 (rd (e.set (d : Int).toNat (shr .u64 (rd a (wrap64 (d + (wrap64 (Int.tdiv b 64))))) (IntKind.wrap .u64 (Int.tmod b 64)))) d) (shl .u64 (rd a (wrap64 ((wrap64 (d + (wrap64 (Int.tdiv b 64)))) + 1))) (IntKind.wrap .u64 (wrap64 (64 - (Int.tmod b 64))))))) (wrap64 (d + 1))).map bC.enc else none else none else none else none else none else none else none else (bC.l0 k a b c (e.set (d : Int).toNat (shr .u64 (rd a (wrap64 (d + (wrap64 (Int.tdiv b 64))))) (IntKind.wrap .u64 (Int.tmod b 64)))) (wrap64 (d + 1))).map bC.enc else (bC.l0 k a b c (e.set (d : Int).toNat (shr .u64 (rd a (wrap64 (d + (wrap64 (Int.tdiv b 64))))) (IntKind.wrap .u64 (Int.tmod b 64)))) (wrap64 (d + 1))).map bC.enc else none else none else none else none else none else (bI.f e).bind fun f => some (rA f)) (by simp only [bC.l0] at h; revert h; exact tc)⟩
 ·cases h
theorem bC.pts : ∀ k, jI prog (dF f253) (bC.E k) GOk (Fin prog f253) := je stays mixed bC.fok [(6, bC.p0)] ⟨bC.s0, trivial⟩
theorem bC.ok (k : Nat) : AO 253 (bC.app k) := eX stays mixed (bC.fok k) (bC.pts k) fun l K r h => by
 dsimp only [bC.app] at h
 split at h
 ·rename_i a b
  exact fin (enc := bC.enc) h rfl fun y h => by
   exact via ((aN.f k a).bind fun c => if (decide (b ≥ c)) then some (rA ([] : List Int)) else (aH.f k a).bind fun d => if (64 : Int) = 0 then none else if 0 ≤ wrap64 (d - (wrap64 (Int.tdiv b 64))) then if (wrap64 (d - (wrap64 (Int.tdiv b 64))) : Int).toNat * 8 ≤ 281474976710656 then (bC.l0 k a b d (List.replicate (wrap64 (d - (wrap64 (Int.tdiv b 64))) : Int).toNat 0) 0).map bC.enc else none else none) (by rw [bC.f] at h; exact Eq.trans (Eq.symm mt2) h)
 ·cases h
def aQ.enc (r : List Int) : AV := .ro true .u64 r
def aQ.app (k : Nat) : List AV → (AV → Option AV) → Option AV := fun l K => match l with
 | [.ro false .u64 a, .ro false .u64 b] => (aQ.f k a b).bind fun r => K (aQ.enc r)
 | _ => none
def aQ.p0 (k : Nat) : Pt := ⟨[.c [1, 1, 1, 1, 0, 1, 0, 0, 0, 0], .c [1, 1, 1, 1, 0, 1, 0, 0, 0, 1], .c [1, 1, 1, 1, 0, 1, 0, 0, 1], .l [1, 1, 1, 1, 0, 1, 0, 0], .b 0, .c [1, 1, 1, 1, 1]], [(0, some .u64, [false]), (1, some .u64, [false]), (5, none, []), (7, none, []), (8, none, []), (4, some .u64, [])], [], [(6, .u64, 22)], [], fun s => match s with
 | ⟨[(0, .ro false .u64 a), (1, .ro false .u64 b), (5, .v (.int .i64 c)), (7, .v (.int .u64 d)), (8, .v (.int .i64 e)), (4, .ro true .u64 []), (6, .own 6)], [(6, .ints .u64 22 f)]⟩ => (aQ.l0 k a b c f d e).map aQ.enc
 | _ => none⟩
def aQ.E (k : Nat) : Env := ⟨49, tys, [(151, aH.app k), (169, fC.app), (154, bI.app)], [(5, aQ.p0 k)], [], false, [73], false⟩
theorem aQ.fok (k : Nat) : FO 254 f254 (dF f254) (aQ.E k) := fo fV func254 ⟨aH.ok k, ⟨fC.ok, ⟨bI.ok, trivial⟩⟩⟩
theorem aQ.s0 : jM f254 aQ.E aQ.p0 := fun k s r h => by
 dsimp only [aQ.p0] at h
 split at h
 ·rename_i a b c d e f
  rcases k with _ | k
  ·cases h
  exact ⟨k, rfl, via (if (decide (e < c)) then if 0 ≤ e then if e < (a.length : Int) then (fC.f b e).bind fun g => if 0 ≤ e then if e < (f.length : Int) then if (decide ((rd a e) < g)) = false then if ((rd a e) == g) then if (d == 1) then (aQ.l0 k a b c (f.set (e : Int).toNat (IntKind.wrap .u64 ((IntKind.wrap .u64 ((rd a e) - g)) - d))) 1 (wrap64 (e + 1))).map aQ.enc else (aQ.l0 k a b c (f.set (e : Int).toNat (IntKind.wrap .u64 ((IntKind.wrap .u64 ((rd a e) - g)) - d))) 0 (wrap64 (e + 1))).map aQ.enc else (aQ.l0 k a b c (f.set (e : Int).toNat (IntKind.wrap .u64 ((IntKind.wrap .u64 ((rd a e) - g)) - d))) 0 (wrap64 (e + 1))).map aQ.enc else (aQ.l0 k a b c (f.set (e : Int).toNat (IntKind.wrap .u64 ((IntKind.wrap .u64 ((rd a e) - g)) - d))) 1 (wrap64 (e + 1))).map aQ.enc else none else none else none else none else (bI.f f).bind fun i => some (rA i)) (by rw [aQ.l0] at h; exact Eq.trans (Eq.symm mt2) h)⟩
 ·cases h
theorem aQ.pts : ∀ k, jI prog (dF f254) (aQ.E k) GOk (Fin prog f254) := je stays mixed aQ.fok [(5, aQ.p0)] ⟨aQ.s0, trivial⟩
theorem aQ.ok (k : Nat) : AO 254 (aQ.app k) := eX stays mixed (aQ.fok k) (aQ.pts k) fun l K r h => by
 dsimp only [aQ.app] at h
 split at h
 ·rename_i a b
  exact fin (enc := aQ.enc) h rfl fun y h => by
   exact via ((aH.f k a).bind fun c => if 0 ≤ c then if (c : Int).toNat * 8 ≤ 281474976710656 then (aQ.l0 k a b c (List.replicate (c : Int).toNat 0) 0 0).map aQ.enc else none else none) (by rw [aQ.f] at h; exact Eq.trans (Eq.symm mt2) h)
 ·cases h
def aG.enc (r : List Int × List Int) : AV := .tup [.ro true .u64 r.1, .ro true .u64 r.2]
def aG.app (k : Nat) : List AV → (AV → Option AV) → Option AV := fun l K => match l with
 | [.ro false .u64 a, .ro false .u64 b] => (aG.f k a b).bind fun r => K (aG.enc r)
 | _ => none
def aG.p0 (k : Nat) : Pt := ⟨[.c [1, 1, 1, 1, 1, 1, 0, 1, 0, 0, 0, 0], .c [1, 1, 1, 1, 1, 1, 0, 1, 0, 0, 0, 1], .c [1, 1, 1, 1, 1, 1, 0, 1, 0, 0, 1], .l [1, 1, 1, 1, 1, 1, 0, 1, 0, 0], .b 0, .c [1, 1, 1, 1, 1, 1, 1]], [(0, some .u64, [false]), (1, some .u64, [false]), (9, some .u64, []), (10, none, [])], [], [(8, .u64, 22)], [], fun s => match s with
 | ⟨[(0, .ro false .u64 a), (1, .ro false .u64 b), (9, .ro true .u64 c), (10, .v (.int .i64 d)), (8, .own 8)], [(8, .ints .u64 22 e)]⟩ => (aG.l0 k a b e c d).map aG.enc
 | _ => none⟩
def aG.p1 (k : Nat) : Pt := ⟨[.c [1, 1, 1, 1, 1, 1, 0, 1, 0, 0, 1, 0, 0, 1, 1, 0], .c [1, 1, 1, 1, 1, 1, 0, 1, 0, 0, 1, 0, 0, 1, 1, 1], .b 1, .c [1, 1, 1, 1, 1, 1, 0, 1, 0, 0, 1, 1], .l [1, 1, 1, 1, 1, 1, 0, 1, 0, 0], .b 0, .c [1, 1, 1, 1, 1, 1, 1]], [(0, some .u64, [false]), (1, some .u64, [false]), (9, some .u64, []), (10, none, [])], [], [(8, .u64, 22)], [], fun s => match s with
 | ⟨[(0, .ro false .u64 a), (1, .ro false .u64 b), (9, .ro true .u64 c), (10, .v (.int .i64 d)), (8, .own 8)], [(8, .ints .u64 22 e)]⟩ => (aG.j1 k a b e c d).map aG.enc
 | _ => none⟩
def aG.E (k : Nat) : Env := ⟨69, tys, [(94, aN.app k), (154, bI.app), (151, aH.app k), (253, bC.app k), (219, bH.app k), (216, eU.app), (84, ak.app k), (168, aU.app k), (254, aQ.app k)], [(8, aG.p0 k), (13, aG.p1 k)], [], false, [73, 73], false⟩
theorem aG.fok (k : Nat) : FO 220 f220 (dF f220) (aG.E k) := fo fV func220 ⟨aN.ok k, ⟨bI.ok, ⟨aH.ok k, ⟨bC.ok k, ⟨bH.ok k, ⟨eU.ok, ⟨ak.ok k, ⟨aU.ok k, ⟨aQ.ok k, trivial⟩⟩⟩⟩⟩⟩⟩⟩⟩
theorem aG.s0 : jM f220 aG.E aG.p0 := fun k s r h => by
 dsimp only [aG.p0] at h
 split at h
 ·rename_i a b c d e
  rcases k with _ | k
  ·cases h
  exact ⟨k, rfl, via (if (decide (d ≥ 0)) then (bH.f k c 1).bind fun f => (eU.f a d).bind fun g => if (g == 1) then (ak.f k f ([1] : List Int)).bind fun i => (aG.j1 k a b e i d).map aG.enc else (aG.j1 k a b e f d).map aG.enc else (bI.f e).bind fun j => some (.tup [rA j, rA c])) (by rw [aG.l0] at h; exact Eq.trans (Eq.symm mt2) h)⟩
 ·cases h
theorem aG.s1 : jM f220 aG.E aG.p1 := fun k s r h => by
 dsimp only [aG.p1] at h
 split at h
 ·rename_i a b c d e
  rcases k with _ | k
  ·cases h
  exact ⟨k, rfl, via ((aU.f k c b).bind fun f => if (decide (f ≥ 0)) then (aQ.f k c b).bind fun g => if (64 : Int) = 0 then none else if (64 : Int) = 0 then none else if 0 ≤ wrap64 (Int.tdiv d 64) then if wrap64 (Int.tdiv d 64) < (e.length : Int) then if (64 : Int) = 0 then none else if 0 ≤ IntKind.wrap .u64 (Int.tmod d 64) then if 0 ≤ wrap64 (Int.tdiv d 64) then if wrap64 (Int.tdiv d 64) < (e.length : Int) then (aG.l0 k a b (e.set (wrap64 (Int.tdiv d 64) : Int).toNat (Go.bits .or .u64 (rd e (wrap64 (Int.tdiv d 64))) (shl .u64 1 (IntKind.wrap .u64 (Int.tmod d 64))))) g (wrap64 (d - 1))).map aG.enc else none else none else none else none else none else (aG.l0 k a b e c (wrap64 (d - 1))).map aG.enc) (by rw [aG.j1] at h; exact Eq.trans (Eq.symm mt2) h)⟩
 ·cases h
theorem aG.pts : ∀ k, jI prog (dF f220) (aG.E k) GOk (Fin prog f220) := je stays mixed aG.fok [(8, aG.p0), (13, aG.p1)] ⟨aG.s0, aG.s1, trivial⟩
theorem aG.ok (k : Nat) : AO 220 (aG.app k) := eX stays mixed (aG.fok k) (aG.pts k) fun l K r h => by
 dsimp only [aG.app] at h
 split at h
 ·rename_i a b
  exact fin (enc := aG.enc) h rfl fun y h => by
   exact via ((aN.f k a).bind fun c => (aN.f k b).bind fun d => if (decide (c < d)) then (bI.f a).bind fun e => some (.tup [rA ([] : List Int), rA e]) else (aH.f k a).bind fun f => if 0 ≤ f then if (f : Int).toNat * 8 ≤ 281474976710656 then (bC.f k a (wrap64 ((wrap64 (c - d)) + 1))).bind fun g => (aG.l0 k a b (List.replicate (f : Int).toNat 0) g (wrap64 (c - d))).map aG.enc else none else none) (by rw [aG.f] at h; exact Eq.trans (Eq.symm mt2) h)
 ·cases h
def cO.enc (r : List Int × List Int) : AV := .tup [.ro true .u64 r.1, .ro true .u64 r.2]
def cO.app (k : Nat) : List AV → (AV → Option AV) → Option AV := fun l K => match l with
 | [.ro false .u64 a, .ro false .u64 b] => (cO.f k a b).bind fun r => K (cO.enc r)
 | _ => none
def cO.E (k : Nat) : Env := ⟨11, tys, [(220, aG.app k)], [], [], false, [73, 73], false⟩
theorem cO.fok (k : Nat) : FO 167 f167 (dF f167) (cO.E k) := fo fV func167 ⟨aG.ok k, trivial⟩
theorem cO.ok (k : Nat) : AO 167 (cO.app k) := eX stays mixed (cO.fok k) (dX rfl) fun l K r h => by
 dsimp only [cO.app] at h
 split at h
 ·rename_i a b
  exact fin (enc := cO.enc) h rfl fun y h => by
   exact via ((aG.f k a b).bind fun c => some (.tup [rA c.1, rA c.2])) (by rw [cO.f] at h; exact Eq.trans (Eq.symm mt2) h)
 ·cases h
def dD.enc (r : List Int × Int) : AV := .tup [.ro true .u64 r.1, .v (.int .i64 r.2)]
def dD.app (k : Nat) : List AV → (AV → Option AV) → Option AV := fun l K => match l with
 | [.agg [.v (.bool a), .ro false .u64 b, .ro false .u64 c, .v (.int .i64 d)], .v (.int .i64 e)] => (dD.f k a b c d e).bind fun r => K (dD.enc r)
 | _ => none
def dD.E (k : Nat) : Env := ⟨46, tys, [(166, dB.app k), (167, cO.app k), (168, aU.app k)], [], [], false, [73, 3], false⟩
theorem dD.fok (k : Nat) : FO 157 f157 (dF f157) (dD.E k) := fo fV func157 ⟨dB.ok k, ⟨cO.ok k, ⟨aU.ok k, trivial⟩⟩⟩
theorem dD.ok (k : Nat) : AO 157 (dD.app k) := eX stays mixed (dD.fok k) (dX rfl) fun l K r h => by
 dsimp only [dD.app] at h
 split at h
 ·rename_i a b c d e
  exact fin (enc := dD.enc) h rfl fun y h => by
   exact via (if (decide (d ≥ e)) then (dB.f k b (wrap64 (d - e))).bind fun f => (cO.f k f c).bind fun g => if ((g.2.length : Int) == 0) then some (.tup [rA g.1, iA 0]) else (dB.f k g.2 1).bind fun i => (aU.f k i c).bind fun j => some (.tup [rA g.1, iA (wrap64 (2 + j))]) else (dB.f k c (wrap64 (e - d))).bind fun m => (cO.f k b m).bind fun n => if ((n.2.length : Int) == 0) then some (.tup [rA n.1, iA 0]) else (dB.f k n.2 1).bind fun o => (aU.f k o m).bind fun p => some (.tup [rA n.1, iA (wrap64 (2 + p))])) (by rw [dD.f] at h; exact Eq.trans (Eq.symm mt2) h)
 ·cases h
def fQ.enc (r : Int) : AV := .v (.int .i64 r)
def fQ.app (k : Nat) : List AV → (AV → Option AV) → Option AV := fun l K => match l with
 | [.agg [.v (.bool a), .ro false .u64 b, .ro false .u64 c, .v (.int .i64 d)]] => (fQ.f k a b c d).bind fun r => K (fQ.enc r)
 | _ => none
def fQ.E (k : Nat) : Env := ⟨28, tys, [(94, aN.app k), (157, dD.app k)], [], [(1, [0, 1, 3, 4, 7, 8, 2, 5, 6, 9, 10])], false, [3], false⟩
theorem fQ.fok (k : Nat) : FO 156 f156 (dF f156) (fQ.E k) := fo fV func156 ⟨aN.ok k, ⟨dD.ok k, trivial⟩⟩
theorem fQ.ok (k : Nat) : AO 156 (fQ.app k) := eX stays mixed (fQ.fok k) (dX rfl) fun l K r h => by
 dsimp only [fQ.app] at h
 split at h
 ·rename_i a b c d
  exact fin (enc := fQ.enc) h rfl fun y h => by
   exact via ((aN.f k b).bind fun e => (aN.f k c).bind fun f => (dD.f k a b c d (wrap64 ((wrap64 (e - f)) + d))).bind fun g => if ((g.1.length : Int) == 0) then some (iA (wrap64 ((wrap64 ((wrap64 (e - f)) + d)) - 1))) else some (iA (wrap64 ((wrap64 (e - f)) + d)))) (by rw [fQ.f] at h; exact Eq.trans (Eq.symm mt2) h)
 ·cases h
def dU.enc (r : List Int) : AV := .ro false .u64 r
def dU.app (k : Nat) : List AV → (AV → Option AV) → Option AV := fun l K => match l with
 | [.v (.int .i64 a), .v (.bool b), .ro false .u64 c, .v (.int .i64 d)] => (dU.f k a b c d).bind fun r => K (dU.enc r)
 | _ => none
def dU.E (k : Nat) : Env := ⟨50, tys, [(216, eU.app), (84, ak.app k)], [], [], true, [73], false⟩
theorem dU.fok (k : Nat) : FO 158 f158 (dF f158) (dU.E k) := fo fV func158 ⟨eU.ok, ⟨ak.ok k, trivial⟩⟩
theorem dU.ok (k : Nat) : AO 158 (dU.app k) := eX stays mixed (dU.fok k) (dX rfl) fun l K r h => by
 dsimp only [dU.app] at h
 split at h
 ·rename_i a b c d
  exact fin (enc := dU.enc) h rfl fun y h => by
   exact via ((eU.f c 0).bind fun e => if (a == 0) then if (d == 3) = false then if (d == 2) then if (decide (d > 0)) then if (e == 1) then (ak.f k c ([1] : List Int)).bind fun f => some (rB f) else some (rB c) else some (rB c) else if (decide (d > 0)) then some (rB c) else some (rB c) else if (decide (d > 0)) then (ak.f k c ([1] : List Int)).bind fun g => some (rB g) else some (rB c) else if (a == 1) then if (decide (d > 0)) then if (decide (d ≥ 2)) then (ak.f k c ([1] : List Int)).bind fun i => some (rB i) else some (rB c) else some (rB c) else if (a == 3) then if (decide (d > 0)) then if (!b) then (ak.f k c ([1] : List Int)).bind fun j => some (rB j) else some (rB c) else some (rB c) else if (a == 4) then if (decide (d > 0)) then if b then (ak.f k c ([1] : List Int)).bind fun m => some (rB m) else some (rB c) else some (rB c) else if (a == 5) then if (decide (d > 0)) then if (!(e == 1)) then (ak.f k c ([1] : List Int)).bind fun n => some (rB n) else some (rB c) else some (rB c) else if (decide (d > 0)) then some (rB c) else some (rB c)) (by rw [dU.f] at h; exact Eq.trans (Eq.symm mt2) h)
 ·cases h
def dZ.enc (r : Int) : AV := .v (.int .u64 r)
def dZ.app : List AV → (AV → Option AV) → Option AV := fun l K => match l with
 | [.v (.int .i64 a), .v (.int .u64 b)] => (dZ.f a b).bind fun r => K (dZ.enc r)
 | _ => none
def dZ.E : Env := ⟨25, tys, [(145, bJ.app), (149, bY.app)], [], [], false, [22], false⟩
theorem dZ.fok : FO 217 f217 (dF f217) (dZ.E) := fo fV func217 ⟨bJ.ok, ⟨bY.ok, trivial⟩⟩
theorem dZ.ok : AO 217 (dZ.app) := eX stays mixed (dZ.fok) (dX rfl) fun l K r h => by
 dsimp only [dZ.app] at h
 split at h
 ·rename_i a b
  exact fin (enc := dZ.enc) h rfl fun y h => by
   exact via ((bJ.f a).bind fun c => if 0 ≤ IntKind.wrap .u64 (wrap64 (c.2.1 - 1)) then (bY.f a b (IntKind.wrap .u64 (wrap64 (2 * c.2.2.2.1))) (IntKind.wrap .u64 ((shl .u64 1 (IntKind.wrap .u64 (wrap64 (c.2.1 - 1)))) - 1))).bind fun d => some (uA d) else none) (by rw [dZ.f] at h; exact Eq.trans (Eq.symm mt2) h)
 ·cases h
def aK.enc (r : Int) : AV := .v (.int .u64 r)
def aK.app (k : Nat) : List AV → (AV → Option AV) → Option AV := fun l K => match l with
 | [.v (.int .i64 a), .v (.int .i64 b), .v (.bool c)] => (aK.f k a b c).bind fun r => K (aK.enc r)
 | _ => none
def aK.p0 (k : Nat) : Pt := ⟨[.c [1, 1, 0, 0], .c [1, 1, 0, 1], .c [1, 1, 1]], [(0, none, []), (2, none, []), (7, none, [])], [], [], [], fun s => match s with
 | ⟨[(0, .v (.int .i64 a)), (2, .v (.bool b)), (7, .v (.bool c))], []⟩ => (aK.j0 k a b c).map aK.enc
 | _ => none⟩
def aK.E (k : Nat) : Env := ⟨38, tys, [(155, dP.app), (65, fK.app), (217, dZ.app)], [(2, aK.p0 k)], [], false, [22], false⟩
theorem aK.fok (k : Nat) : FO 159 f159 (dF f159) (aK.E k) := fo fV func159 ⟨dP.ok, ⟨fK.ok, ⟨dZ.ok, trivial⟩⟩⟩
theorem aK.s0 : jM f159 aK.E aK.p0 := fun k s r h => by
 dsimp only [aK.p0] at h
 split at h
 ·rename_i a b c
  rcases k with _ | k
  ·cases h
  exact ⟨k, rfl, via (if c then (dP.f b).bind fun d => (fK.f a d).bind fun e => some (uA e) else (dP.f b).bind fun f => (dZ.f a f).bind fun g => some (uA g)) (by rw [aK.j0] at h; exact Eq.trans (Eq.symm mt2) h)⟩
 ·cases h
theorem aK.pts : ∀ k, jI prog (dF f159) (aK.E k) GOk (Fin prog f159) := je stays mixed aK.fok [(2, aK.p0)] ⟨aK.s0, trivial⟩
theorem aK.ok (k : Nat) : AO 159 (aK.app k) := eX stays mixed (aK.fok k) (aK.pts k) fun l K r h => by
 dsimp only [aK.app] at h
 split at h
 ·rename_i a b c
  exact fin (enc := aK.enc) h rfl fun y h => by
   exact via (if (b == 0) = false then if (b == 1) = false then if (b == 3) then if (!c) = false then if (b == 4) then (aK.j0 k a c c).map aK.enc else (aK.j0 k a c false).map aK.enc else (aK.j0 k a c true).map aK.enc else if (b == 4) then (aK.j0 k a c c).map aK.enc else (aK.j0 k a c false).map aK.enc else (aK.j0 k a c true).map aK.enc else (aK.j0 k a c true).map aK.enc) (by rw [aK.f] at h; exact Eq.trans (Eq.symm mt2) h)
 ·cases h
def aI.enc (r : Int × Int) : AV := .tup [.v (.int .u64 r.1), .v (.int .i64 r.2)]
def aI.app (k : Nat) : List AV → (AV → Option AV) → Option AV := fun l K => match l with
 | [.v (.int .i64 a), .v (.int .i64 b), .agg [.v (.bool c), .ro false .u64 d, .ro false .u64 e, .v (.int .i64 f)]] => (aI.f k a b c d e f).bind fun r => K (aI.enc r)
 | _ => none
def aI.p0 (k : Nat) : Pt := ⟨[.c [1, 1, 1, 1, 1, 1, 1, 0], .c [1, 1, 1, 1, 1, 1, 1, 1]], [(0, none, []), (1, none, []), (10, none, []), (11, none, []), (12, none, [])], [(5, [false, false]), (8, [])], [], [], fun s => match s with
 | ⟨[(0, .v (.int .i64 a)), (1, .v (.int .i64 b)), (10, .v (.int .i64 c)), (11, .v (.int .i64 d)), (12, .v (.int .i64 e)), (5, .ptr 5 0), (8, .ptr 8 0)], [(5, .cells [.v (.bool f), .ro false .u64 g, .ro false .u64 i, .v (.int .i64 j)]), (8, .cells [.v (.int .i64 m), .v (.int .i64 n), .v (.int .i64 o), .v (.int .i64 p)])]⟩ => (aI.j0 k a b c d e f g i j m n o p).map aI.enc
 | _ => none⟩
def aI.p1 (k : Nat) : Pt := ⟨[.c [1, 1, 1, 1, 1, 1, 1, 1, 1, 1, 1, 1, 0], .c [1, 1, 1, 1, 1, 1, 1, 1, 1, 1, 1, 1, 1]], [(0, none, []), (11, none, []), (12, none, []), (15, some .u64, [false]), (16, none, [])], [(5, [false, false]), (8, [])], [], [], fun s => match s with
 | ⟨[(0, .v (.int .i64 a)), (11, .v (.int .i64 b)), (12, .v (.int .i64 c)), (15, .ro false .u64 d), (16, .v (.int .i64 e)), (5, .ptr 5 0), (8, .ptr 8 0)], [(5, .cells [.v (.bool f), .ro false .u64 g, .ro false .u64 i, .v (.int .i64 j)]), (8, .cells [.v (.int .i64 m), .v (.int .i64 n), .v (.int .i64 o), .v (.int .i64 p)])]⟩ => (aI.j1 k a b c d e f g i j m n o p).map aI.enc
 | _ => none⟩
def aI.E (k : Nat) : Env := ⟨129, tys, [(154, bI.app), (155, dP.app), (67, fE.app), (145, bJ.app), (156, fQ.app k), (157, dD.app k), (158, dU.app k), (94, aN.app k), (159, aK.app k), (149, bY.app)], [(9, aI.p0 k), (19, aI.p1 k)], [(11, [0, 2, 4, 5, 6, 1, 3, 7]), (17, [0, 1, 2, 3, 4, 7, 9, 10, 13, 14, 5, 6, 8, 11, 12, 15]), (22, [0, 1, 2, 5, 6, 7, 8, 9, 10, 11, 12, 13, 14, 15, 17, 3, 4, 16, 18, 19])], false, [22, 3], false⟩
theorem aI.fok (k : Nat) : FO 71 f71 (dF f71) (aI.E k) := fo fV func71 ⟨bI.ok, ⟨dP.ok, ⟨fE.ok, ⟨bJ.ok, ⟨fQ.ok k, ⟨dD.ok k, ⟨dU.ok k, ⟨aN.ok k, ⟨aK.ok k, ⟨bY.ok, trivial⟩⟩⟩⟩⟩⟩⟩⟩⟩⟩
theorem aI.s0 : jM f71 aI.E aI.p0 := fun k s r h => by
 dsimp only [aI.p0] at h
 split at h
 ·rename_i a b c d e f g i j m n o p
  rcases k with _ | k
  ·cases h
  exact ⟨k, rfl, via ((dD.f k f g i j e).bind fun q => (dU.f k b f q.1 q.2).bind fun t => (aN.f k t).bind fun u => if (decide ((wrap64 (u + e)) > (wrap64 (p + 1)))) then (aK.f k a b f).bind fun v => some (.tup [uA v, iA 20]) else if (decide (q.2 > 0)) then (dD.f k f g i j (wrap64 ((wrap64 (c - n)) + 1))).bind fun w => (dU.f k b f w.1 w.2).bind fun x => (aN.f k x).bind fun y => if (decide ((wrap64 ((wrap64 ((wrap64 (y + c)) - n)) + 1)) ≤ o)) then (aI.j1 k a d e t 24 f g i j m n o p).map aI.enc else (aI.j1 k a d e t 16 f g i j m n o p).map aI.enc else (aI.j1 k a d e t 0 f g i j m n o p).map aI.enc) (by rw [aI.j0] at h; exact Eq.trans (Eq.symm mt2) h)⟩
 ·cases h
theorem aI.s1 : jM f71 aI.E aI.p1 := fun k s r h => by
 dsimp only [aI.p1] at h
 split at h
 ·rename_i a b c d e f g i j m n o p
  rcases k with _ | k
  ·cases h
  exact ⟨k, rfl, via (if (decide ((d.length : Int) > 0)) then if (0 : Int) ≤ 0 then if 0 < (d.length : Int) then if 0 ≤ IntKind.wrap .u64 (wrap64 (n - 1)) then (dP.f f).bind fun q => (bY.f a q 0 0).bind fun t => some (.tup [uA (Go.bits .or .u64 t (IntKind.wrap .u64 ((shl .u64 (IntKind.wrap .u64 (wrap64 (c - b))) (IntKind.wrap .u64 (wrap64 (n - 1)))) + (rd d 0)))), iA e]) else none else none else none else if 0 ≤ IntKind.wrap .u64 (wrap64 (n - 1)) then (dP.f f).bind fun u => (bY.f a u 0 0).bind fun v => some (.tup [uA (Go.bits .or .u64 v (IntKind.wrap .u64 ((shl .u64 (IntKind.wrap .u64 (wrap64 (c - b))) (IntKind.wrap .u64 (wrap64 (n - 1)))) + 0))), iA e]) else none) (by simp only [aI.j1] at h; revert h; exact tc)⟩
 ·cases h
theorem aI.pts : ∀ k, jI prog (dF f71) (aI.E k) GOk (Fin prog f71) := je stays mixed aI.fok [(9, aI.p0), (19, aI.p1)] ⟨aI.s0, aI.s1, trivial⟩
theorem aI.ok (k : Nat) : AO 71 (aI.app k) := eX stays mixed (aI.fok k) (aI.pts k) fun l K r h => by
 dsimp only [aI.app] at h
 split at h
 ·rename_i a b c d e f
  exact fin (enc := aI.enc) h rfl fun y h => by
   exact via ((bI.f d).bind fun g => if ((g.length : Int) == 0) then (dP.f c).bind fun i => (fE.f a i).bind fun j => some (.tup [uA j, iA 0]) else (bJ.f a).bind fun m => (fQ.f k c d e f).bind fun n => if (decide ((wrap64 ((wrap64 (n - m.2.1)) + 1)) < (wrap64 ((wrap64 (m.2.2.1 - m.2.1)) + 1)))) then (aI.j0 k a b n (wrap64 ((wrap64 (m.2.2.1 - m.2.1)) + 1)) (wrap64 ((wrap64 (m.2.2.1 - m.2.1)) + 1)) c d e f m.1 m.2.1 m.2.2.1 m.2.2.2.1).map aI.enc else (aI.j0 k a b n (wrap64 ((wrap64 (m.2.2.1 - m.2.1)) + 1)) (wrap64 ((wrap64 (n - m.2.1)) + 1)) c d e f m.1 m.2.1 m.2.2.1 m.2.2.2.1).map aI.enc) (by rw [aI.f] at h; exact Eq.trans (Eq.symm mt2) h)
 ·cases h
def gW.enc (r : Int × Int × Int) : AV := .tup [.v (.int .u64 r.1), .v (.int .i64 r.2.1), .v (.int .i64 r.2.2)]
def gW.app (k : Nat) : List AV → (AV → Option AV) → Option AV := fun l K => match l with
 | [.v (.int .i64 a), .v (.int .i64 b), .v (.string c)] => (gW.f k a b c).bind fun r => K (gW.enc r)
 | _ => none
def gW.p0 (k : Nat) : Pt := ⟨[.c [1, 1, 1, 1, 1, 1, 1, 0, 0, 0], .c [1, 1, 1, 1, 1, 1, 1, 0, 0, 1], .b 0, .c [1, 1, 1, 1, 1, 1, 1, 1]], [(0, none, []), (1, none, []), (11, none, []), (12, none, [])], [(10, [])], [], [], fun s => match s with
 | ⟨[(0, .v (.int .i64 a)), (1, .v (.int .i64 b)), (11, .v (.bool c)), (12, .v (.int .u64 d)), (10, .ptr 10 0)], [(10, .cells [.v (.bool e), .v (.bool f), .v (.bool g), .v (.string i), .v (.int .i64 j)])]⟩ => (gW.j0 k a b c d e f g i j).map gW.enc
 | _ => none⟩
def gW.E (k : Nat) : Env := ⟨107, tys, [(62, dR.app k), (63, aZ.app k), (64, jY.app), (65, fK.app), (66, bP.app k), (67, fE.app), (68, ah.app k), (70, dQ.app k), (69, bQ.app k), (71, aI.app k)], [(10, gW.p0 k)], [], false, [22, 3, 3], false⟩
def b_.enc (r : Int) : AV := .v (.int .i64 r)
def b_.app : List AV → (AV → Option AV) → Option AV := fun l K => match l with
 | [.v (.int .i64 a), .v (.int .u64 b)] => (b_.f a b).bind fun r => K (b_.enc r)
 | _ => none
def b_.E : Env := ⟨25, tys, [(52, dn.app)], [], [], false, [24], false⟩
theorem b_.fok : FO 72 f72 (dF f72) (b_.E) := fo fV func72 ⟨dn.ok, trivial⟩
theorem b_.ok : AO 72 (b_.app) := eX stays mixed (b_.fok) (dX rfl) fun l K r h => by
 dsimp only [b_.app] at h
 split at h
 ·rename_i a b
  exact fin (enc := b_.enc) h rfl fun y h => by
   exact via ((dn.f a).bind fun c => if (c.2.2.2.2 != 0) then some (iA c.2.2.2.2) else if (decide (c.1 < 64)) then if 0 ≤ c.1 then if ((shr .u64 b c.1) != 0) then some (iA 4) else some (iA 0) else none else some (iA 0)) (by rw [b_.f] at h; exact Eq.trans (Eq.symm mt2) h)
 ·cases h
def bD.enc (r : Bool × Int × Int × Int × ByteArray) : AV := .tup [.agg [.v (.bool r.1), .v (.int .u64 r.2.1), .v (.int .i64 r.2.2.1), .v (.int .u64 r.2.2.2.1)], .v (.string r.2.2.2.2)]
def bD.app (k : Nat) : List AV → (AV → Option AV) → Option AV := fun l K => match l with
 | [.v (.int .i64 a), .v (.int .u64 b)] => (bD.f k a b).bind fun r => K (bD.enc r)
 | _ => none
def bD.p0 (k : Nat) : Pt := ⟨[.c [1, 1, 1, 1, 1, 1, 0, 0], .c [1, 1, 1, 1, 1, 1, 0, 1], .c [1, 1, 1, 1, 1, 1, 1]], [(8, none, []), (10, none, []), (11, none, []), (12, none, []), (14, none, [])], [(6, [])], [], [4], fun s => match s with
 | ⟨[(8, .v (.int .i64 a)), (10, .v (.bool b)), (11, .v (.int .u64 c)), (12, .v (.int .u64 d)), (14, .v (.string e)), (6, .ptr 6 0), (4, .ptr 4 0)], [(6, .cells [.v (.int .i64 f), .v (.int .i64 g), .v (.int .i64 i), .v (.int .i64 j)]), (4, .cells [.top, .top, .top, .top])]⟩ => (bD.j0 k a b c d e f g i j).map bD.enc
 | _ => none⟩
def bD.p1 (k : Nat) : Pt := ⟨[.c [1, 1, 1, 1, 1, 1, 0, 1, 0, 1], .b 0, .c [1, 1, 1, 1, 1, 1, 1]], [(10, none, []), (11, none, []), (12, none, []), (14, none, []), (36, none, []), (37, none, [])], [(6, [])], [], [4], fun s => match s with
 | ⟨[(10, .v (.bool a)), (11, .v (.int .u64 b)), (12, .v (.int .u64 c)), (14, .v (.string d)), (36, .v (.int .i64 e)), (37, .v (.bool f)), (6, .ptr 6 0), (4, .ptr 4 0)], [(6, .cells [.v (.int .i64 g), .v (.int .i64 i), .v (.int .i64 j), .v (.int .i64 m)]), (4, .cells [.top, .top, .top, .top])]⟩ => (bD.j1 k a b c d e f g i j m).map bD.enc
 | _ => none⟩
def bD.p2 (k : Nat) : Pt := ⟨[.c [1, 1, 1, 1, 1, 1, 0, 1, 0, 1, 1, 1], .b 0, .c [1, 1, 1, 1, 1, 1, 1]], [(10, none, []), (11, none, []), (12, none, []), (14, none, []), (36, none, []), (41, none, [])], [(6, [])], [], [4], fun s => match s with
 | ⟨[(10, .v (.bool a)), (11, .v (.int .u64 b)), (12, .v (.int .u64 c)), (14, .v (.string d)), (36, .v (.int .i64 e)), (41, .v (.bool f)), (6, .ptr 6 0), (4, .ptr 4 0)], [(6, .cells [.v (.int .i64 g), .v (.int .i64 i), .v (.int .i64 j), .v (.int .i64 m)]), (4, .cells [.top, .top, .top, .top])]⟩ => (bD.j2 k a b c d e f g i j m).map bD.enc
 | _ => none⟩
def bD.E (k : Nat) : Env := ⟨87, tys, [(52, dn.app), (117, jk.app), (118, iW.app)], [(7, bD.p0 k), (100037, bD.p1 k), (100041, bD.p2 k)], [(19, [0, 1, 2, 3, 4, 5, 6, 7, 8])], false, [118, 9], false⟩
theorem bD.fok (k : Nat) : FO 74 f74 (dF f74) (bD.E k) := fo fV func74 ⟨dn.ok, ⟨jk.ok, ⟨iW.ok, trivial⟩⟩⟩
theorem bD.s0 : jM f74 bD.E bD.p0 := fun k s r h => by
 dsimp only [bD.p0] at h
 split at h
 ·rename_i a b c d e f g i j
  rcases k with _ | k
  ·cases h
  exact ⟨k, rfl, via (if (a == 1) then (bD.j1 k b c d e a (a == 1) f g i j).map bD.enc else (bD.j1 k b c d e a (a == 0) f g i j).map bD.enc) (by rw [bD.j0] at h; exact Eq.trans (Eq.symm mt2) h)⟩
 ·cases h
theorem bD.s1 : jM f74 bD.E bD.p1 := fun k s r h => by
 dsimp only [bD.p1] at h
 split at h
 ·rename_i a b c d e f g i j m
  rcases k with _ | k
  ·cases h
  exact ⟨k, rfl, via (if f then some (.tup [.agg [bA false, uA 0, iA 0, uA 0], sA (⟨#[110, 97, 110]⟩ : ByteArray)]) else if (e == 2) then (bD.j2 k a b c d e (e == 2) g i j m).map bD.enc else (bD.j2 k a b c d e (e == 9) g i j m).map bD.enc) (by rw [bD.j1] at h; exact Eq.trans (Eq.symm mt2) h)⟩
 ·cases h
theorem bD.s2 : jM f74 bD.E bD.p2 := fun k s r h => by
 dsimp only [bD.p2] at h
 split at h
 ·rename_i a b c d e f g i j m
  rcases k with _ | k
  ·cases h
  exact ⟨k, rfl, via (if f then if d.size + (⟨#[105, 110, 102]⟩ : ByteArray).size ≤ 9223372036854775807 then some (.tup [.agg [bA false, uA 0, iA 0, uA 0], sA (d ++ (⟨#[105, 110, 102]⟩ : ByteArray))]) else none else if (e == 5) then if (e == 5) then if d.size + (⟨#[48]⟩ : ByteArray).size ≤ 9223372036854775807 then some (.tup [.agg [bA false, uA 0, iA 0, uA 0], sA (d ++ (⟨#[48]⟩ : ByteArray))]) else none else if (decide (b > 0)) then if 0 ≤ wrap64 (i - 1) then if (c == 0) then if (decide (b > 1)) then some (.tup [.agg [bA a, uA (Go.bits .or .u64 c (shl .u64 1 (wrap64 (i - 1)))), iA (wrap64 ((wrap64 ((wrap64 (j - i)) + 1)) + (wrap64 ((wrap64 (b)) - 1)))), uA 1], sA (⟨#[]⟩ : ByteArray)]) else some (.tup [.agg [bA a, uA (Go.bits .or .u64 c (shl .u64 1 (wrap64 (i - 1)))), iA (wrap64 ((wrap64 ((wrap64 (j - i)) + 1)) + (wrap64 ((wrap64 (b)) - 1)))), uA 2], sA (⟨#[]⟩ : ByteArray)]) else some (.tup [.agg [bA a, uA (Go.bits .or .u64 c (shl .u64 1 (wrap64 (i - 1)))), iA (wrap64 ((wrap64 ((wrap64 (j - i)) + 1)) + (wrap64 ((wrap64 (b)) - 1)))), uA 2], sA (⟨#[]⟩ : ByteArray)]) else none else some (.tup [.agg [bA a, uA c, iA (wrap64 ((wrap64 (j - i)) + 1)), uA 2], sA (⟨#[]⟩ : ByteArray)]) else if (e == 6) then if d.size + (⟨#[48]⟩ : ByteArray).size ≤ 9223372036854775807 then some (.tup [.agg [bA false, uA 0, iA 0, uA 0], sA (d ++ (⟨#[48]⟩ : ByteArray))]) else none else if (decide (b > 0)) then if 0 ≤ wrap64 (i - 1) then if (c == 0) then if (decide (b > 1)) then some (.tup [.agg [bA a, uA (Go.bits .or .u64 c (shl .u64 1 (wrap64 (i - 1)))), iA (wrap64 ((wrap64 ((wrap64 (j - i)) + 1)) + (wrap64 ((wrap64 (b)) - 1)))), uA 1], sA (⟨#[]⟩ : ByteArray)]) else some (.tup [.agg [bA a, uA (Go.bits .or .u64 c (shl .u64 1 (wrap64 (i - 1)))), iA (wrap64 ((wrap64 ((wrap64 (j - i)) + 1)) + (wrap64 ((wrap64 (b)) - 1)))), uA 2], sA (⟨#[]⟩ : ByteArray)]) else some (.tup [.agg [bA a, uA (Go.bits .or .u64 c (shl .u64 1 (wrap64 (i - 1)))), iA (wrap64 ((wrap64 ((wrap64 (j - i)) + 1)) + (wrap64 ((wrap64 (b)) - 1)))), uA 2], sA (⟨#[]⟩ : ByteArray)]) else none else some (.tup [.agg [bA a, uA c, iA (wrap64 ((wrap64 (j - i)) + 1)), uA 2], sA (⟨#[]⟩ : ByteArray)])) (by rw [bD.j2] at h; exact Eq.trans (Eq.symm mt2) h)⟩
 ·cases h
theorem bD.pts : ∀ k, jI prog (dF f74) (bD.E k) GOk (Fin prog f74) := je stays mixed bD.fok [(7, bD.p0), (100037, bD.p1), (100041, bD.p2)] ⟨bD.s0, bD.s1, bD.s2, trivial⟩
theorem bD.ok (k : Nat) : AO 74 (bD.app k) := eX stays mixed (bD.fok k) (bD.pts k) fun l K r h => by
 dsimp only [bD.app] at h
 split at h
 ·rename_i a b
  exact fin (enc := bD.enc) h rfl fun y h => by
   exact via ((dn.f a).bind fun c => (jk.f a b).bind fun d => (iW.f a b).bind fun e => if e.1 then (bD.j0 k d.1 e.1 e.2.1 e.2.2.1 (⟨#[45]⟩ : ByteArray) c.1 c.2.1 c.2.2.1 c.2.2.2.1).map bD.enc else (bD.j0 k d.1 e.1 e.2.1 e.2.2.1 (⟨#[]⟩ : ByteArray) c.1 c.2.1 c.2.2.1 c.2.2.2.1).map bD.enc) (by rw [bD.f] at h; exact Eq.trans (Eq.symm mt2) h)
 ·cases h
def dI.enc (r : ByteArray) : AV := .v (.string r)
def dI.app : List AV → (AV → Option AV) → Option AV := fun l K => match l with
 | [.agg [.v (.bool a), .v (.int .u64 b), .v (.int .i64 c), .v (.int .u64 d)]] => (dI.f a b c d).bind fun r => K (dI.enc r)
 | _ => none
def dI.E : Env := ⟨5, tys, [], [], [], false, [9], false⟩
theorem dI.fok : FO 76 f76 (dF f76) (dI.E) := fo fV func76 trivial
theorem dI.ok : AO 76 (dI.app) := eX stays mixed (dI.fok) (dX rfl) fun l K r h => by
 dsimp only [dI.app] at h
 split at h
 ·rename_i a b c d
  exact fin (enc := dI.enc) h rfl fun y h => by
   exact via (if a then some (sA (⟨#[45]⟩ : ByteArray)) else some (sA (⟨#[]⟩ : ByteArray))) (by rw [dI.f] at h; exact Eq.trans (Eq.symm mt2) h)
 ·cases h
def iO.enc (r : ByteArray) : AV := .v (.string r)
def iO.app : List AV → (AV → Option AV) → Option AV := fun l K => match l with
 | [.v (.string a), .v (.int .i64 b)] => (iO.f a b).bind fun r => K (iO.enc r)
 | _ => none
def iO.E : Env := ⟨39, tys, [(92, strings_Repeat.app)], [], [(5, [0, 1, 2, 3, 4, 5, 6, 7, 8, 9, 10])], false, [9], false⟩
theorem iO.fok : FO 77 f77 (dF f77) (iO.E) := fo fV func77 ⟨strings_Repeat.ok, trivial⟩
theorem iO.ok : AO 77 (iO.app) := eX stays mixed (iO.fok) (dX rfl) fun l K r h => by
 dsimp only [iO.app] at h
 split at h
 ·rename_i a b
  exact fin (enc := iO.enc) h rfl fun y h => by
   exact via (if (decide (b < 0)) then (strings_Repeat.f (⟨#[48]⟩ : ByteArray) (wrap64 ((wrap64 (-b)) - 1))).bind fun c => if (⟨#[48, 46]⟩ : ByteArray).size + c.size ≤ 9223372036854775807 then if ((⟨#[48, 46]⟩ : ByteArray) ++ c).size + a.size ≤ 9223372036854775807 then some (sA (((⟨#[48, 46]⟩ : ByteArray) ++ c) ++ a)) else none else none else if (decide (b ≥ (wrap64 ((a.size : Int) - 1)))) then (strings_Repeat.f (⟨#[48]⟩ : ByteArray) (wrap64 ((wrap64 (b - (a.size : Int))) + 1))).bind fun d => if a.size + d.size ≤ 9223372036854775807 then some (sA (a ++ d)) else none else if 0 ≤ wrap64 (b + 1) then if wrap64 (b + 1) ≤ (a.size : Int) then if (a.extract 0 (wrap64 (b + 1) : Int).toNat).size + (⟨#[46]⟩ : ByteArray).size ≤ 9223372036854775807 then if 0 ≤ wrap64 (b + 1) then if wrap64 (b + 1) ≤ (a.size : Int) then if ((a.extract 0 (wrap64 (b + 1) : Int).toNat) ++ (⟨#[46]⟩ : ByteArray)).size + (a.extract (wrap64 (b + 1) : Int).toNat ((a.size : Int) : Int).toNat).size ≤ 9223372036854775807 then some (sA (((a.extract 0 (wrap64 (b + 1) : Int).toNat) ++ (⟨#[46]⟩ : ByteArray)) ++ (a.extract (wrap64 (b + 1) : Int).toNat ((a.size : Int) : Int).toNat))) else none else none else none else none else none else none) (by rw [iO.f] at h; exact Eq.trans (Eq.symm mt2) h)
 ·cases h
def jg.enc (r : ByteArray) : AV := .v (.string r)
def jg.app : List AV → (AV → Option AV) → Option AV := fun l K => match l with
 | [.v (.string a), .v (.int .i64 b)] => (jg.f a b).bind fun r => K (jg.enc r)
 | _ => none
def jg.E : Env := ⟨21, tys, [(120, strconv_Itoa.app)], [], [], false, [9], false⟩
theorem jg.fok : FO 78 f78 (dF f78) (jg.E) := fo fV func78 ⟨strconv_Itoa.ok, trivial⟩
set_option maxHeartbeats 2000000 in
theorem jg.ok : AO 78 (jg.app) := eX stays mixed (jg.fok) (dX rfl) fun l K r h => by
 dsimp only [jg.app] at h
 split at h
 ·rename_i a b
  exact fin (enc := jg.enc) h rfl fun y h => by
   exact via (if (0 : Int) ≤ 1 then if 1 ≤ (a.size : Int) then if (decide ((a.size : Int) > 1)) then if (0 : Int) ≤ 1 then if 1 ≤ (a.size : Int) then if (⟨#[46]⟩ : ByteArray).size + (a.extract (1 : Int).toNat ((a.size : Int) : Int).toNat).size ≤ 9223372036854775807 then if (a.extract 0 (1 : Int).toNat).size + ((⟨#[46]⟩ : ByteArray) ++ (a.extract (1 : Int).toNat ((a.size : Int) : Int).toNat)).size ≤ 9223372036854775807 then if ((a.extract 0 (1 : Int).toNat) ++ ((⟨#[46]⟩ : ByteArray) ++ (a.extract (1 : Int).toNat ((a.size : Int) : Int).toNat))).size + (⟨#[101]⟩ : ByteArray).size ≤ 9223372036854775807 then (strconv_Itoa.f b).bind fun c => if (((a.extract 0 (1 : Int).toNat) ++ ((⟨#[46]⟩ : ByteArray) ++ (a.extract (1 : Int).toNat ((a.size : Int) : Int).toNat))) ++ (⟨#[101]⟩ : ByteArray)).size + c.size ≤ 9223372036854775807 then some (sA ((((a.extract 0 (1 : Int).toNat) ++ ((⟨#[46]⟩ : ByteArray) ++ (a.extract (1 : Int).toNat ((a.size : Int) : Int).toNat))) ++ (⟨#[101]⟩ : ByteArray)) ++ c)) else none else none else none else none else none else none else if (a.extract 0 (1 : Int).toNat).size + (⟨#[101]⟩ : ByteArray).size ≤ 9223372036854775807 then (strconv_Itoa.f b).bind fun d => if ((a.extract 0 (1 : Int).toNat) ++ (⟨#[101]⟩ : ByteArray)).size + d.size ≤ 9223372036854775807 then some (sA (((a.extract 0 (1 : Int).toNat) ++ (⟨#[101]⟩ : ByteArray)) ++ d)) else none else none else none else none) (by rw [jg.f] at h; exact Eq.trans (Eq.symm mt2) h)
 ·cases h
def bW.enc (r : ByteArray × Int) : AV := .tup [.v (.string r.1), .v (.int .i64 r.2)]
def bW.app (k : Nat) : List AV → (AV → Option AV) → Option AV := fun l K => match l with
 | [.v (.int .i64 a), .v (.int .u64 b)] => (bW.f k a b).bind fun r => K (bW.enc r)
 | _ => none
def bW.p0 (k : Nat) : Pt := ⟨[.c [1, 1, 1, 1, 1, 0, 1], .c [1, 1, 1, 1, 1, 1]], [(9, none, []), (10, none, []), (36, none, [])], [(7, [])], [], [], fun s => match s with
 | ⟨[(9, .v (.string a)), (10, .v (.int .i64 b)), (36, .v (.bool c)), (7, .ptr 7 0)], [(7, .cells [.v (.bool d), .v (.int .u64 e), .v (.int .i64 f), .v (.int .u64 g)])]⟩ => (bW.j0 k a b c d e f g).map bW.enc
 | _ => none⟩
def bW.E (k : Nat) : Env := ⟨49, tys, [(72, b_.app), (74, bD.app k), (75, gI.app), (76, dI.app), (77, iO.app), (78, jg.app)], [(100036, bW.p0 k)], [], false, [9, 24], false⟩
theorem bW.fok (k : Nat) : FO 20 f20 (dF f20) (bW.E k) := fo fV func20 ⟨b_.ok, ⟨bD.ok k, ⟨gI.ok, ⟨dI.ok, ⟨iO.ok, ⟨jg.ok, trivial⟩⟩⟩⟩⟩⟩
theorem bW.s0 : jM f20 bW.E bW.p0 := fun k s r h => by
 dsimp only [bW.p0] at h
 split at h
 ·rename_i a b c d e f g
  rcases k with _ | k
  ·cases h
  exact ⟨k, rfl, via (if c then (dI.f d e f g).bind fun i => (iO.f a b).bind fun j => if i.size + j.size ≤ 9223372036854775807 then some (.tup [sA (i ++ j), iA 0]) else none else (dI.f d e f g).bind fun m => (jg.f a b).bind fun n => if m.size + n.size ≤ 9223372036854775807 then some (.tup [sA (m ++ n), iA 0]) else none) (by rw [bW.j0] at h; exact Eq.trans (Eq.symm mt2) h)⟩
 ·cases h
theorem bW.pts : ∀ k, jI prog (dF f20) (bW.E k) GOk (Fin prog f20) := je stays mixed bW.fok [(100036, bW.p0)] ⟨bW.s0, trivial⟩
theorem bW.ok (k : Nat) : AO 20 (bW.app k) := eX stays mixed (bW.fok k) (bW.pts k) fun l K r h => by
 dsimp only [bW.app] at h
 split at h
 ·rename_i a b
  exact fin (enc := bW.enc) h rfl fun y h => by
   exact via ((b_.f a b).bind fun c => if (c != 0) then some (.tup [sA (⟨#[]⟩ : ByteArray), iA c]) else (bD.f k a b).bind fun d => if (d.2.2.2.2.toList != (⟨#[]⟩ : ByteArray).toList) then some (.tup [sA d.2.2.2.2, iA 0]) else (gI.f d.1 d.2.1 d.2.2.1 d.2.2.2.1).bind fun e => if (decide (e.2 ≥ (-5))) then (bW.j0 k e.1 e.2 (decide (e.2 ≤ 15)) d.1 d.2.1 d.2.2.1 d.2.2.2.1).map bW.enc else (bW.j0 k e.1 e.2 false d.1 d.2.1 d.2.2.1 d.2.2.2.1).map bW.enc) (by rw [bW.f] at h; exact Eq.trans (Eq.symm mt2) h)
 ·cases h
def dS.enc (r : Bool) : AV := .v (.bool r)
def dS.app (k : Nat) : List AV → (AV → Option AV) → Option AV := fun l K => match l with
 | [] => (dS.f k).bind fun r => K (dS.enc r)
 | _ => none
def dS.E (k : Nat) : Env := ⟨33, tys, [(14, gU.app k), (20, bW.app k)], [], [], false, [4], false⟩
theorem dS.fok (k : Nat) : FO 16 f16 (dF f16) (dS.E k) := fo fV func16 ⟨gU.ok k, ⟨bW.ok k, trivial⟩⟩
theorem dS.ok (k : Nat) : AO 16 (dS.app k) := eX stays mixed (dS.fok k) (dX rfl) fun l K r h => by
 dsimp only [dS.app] at h
 split at h
 ·exact fin (enc := dS.enc) h rfl fun y h => by
   exact via ((gU.f k 3 0 (⟨#[48, 46, 49]⟩ : ByteArray)).bind fun a => (bW.f k 0 13653).bind fun b => if (a.1 == 4591870180066957722) then if (a.2.1 == 16) then if (a.2.2 == 0) then if (b.1.toList == (⟨#[48, 46, 51, 51, 51, 51]⟩ : ByteArray).toList) then some (bA (b.2 == 0)) else some (bA false) else some (bA false) else some (bA false) else some (bA false)) (by rw [dS.f] at h; exact Eq.trans (Eq.symm mt2) h)
 ·cases h
def jK.enc (r : Bool) : AV := .v (.bool r)
def jK.app (k : Nat) : List AV → (AV → Option AV) → Option AV := fun l K => match l with
 | [.v (.int .i64 a), .v (.int .i64 b), .v (.string c)] => (jK.f k a b c).bind fun r => K (jK.enc r)
 | _ => none
def jK.E (k : Nat) : Env := ⟨45, tys, [(14, gU.app k), (15, gW.app k), (16, dS.app k)], [], [], false, [4], false⟩
end Go.Proofs.YtafikkmnkeddpaaGreatDoor.P
