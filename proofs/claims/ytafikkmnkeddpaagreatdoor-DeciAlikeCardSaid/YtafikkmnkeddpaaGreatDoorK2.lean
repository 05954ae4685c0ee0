/- Part 2 of the proof: see the last text. Condition: none. -/
import Derived.Lib.JoinLaws
import Derived.WalkSpells
import Derived.Laws.Strings
import Derived.Lib.LaidTab
import Derived.ChangeKeysEq
import Derived.Laws.Small
import Derived.Laws.Cells
import Derived.Laws.DeepStrings4
import Derived.Laws.CopyRow
import Derived.Scope
import Derived.Test.YtafikkmnkeddpaaGreatDoorK1
set_option linter.unusedVariables false
set_option linter.unusedSimpArgs false
namespace Go.Proofs.YtafikkmnkeddpaaGreatDoor
open Go.RowKit
structure qJ (zs : List Nat) (n m cc j : Nat) (ys : List Nat) (c : Nat) : Prop where
 len : ys.length = zs.length
 wd : Wd ys
 carry : c < WB
 eq : val (ys.take j) + c * WB ^ j = val (zs.take j) * m + cc
 rest : ∀ k, j ≤ k → ys.getD k 0 = zs.getD k 0
theorem qJ.start {zs : List Nat} {n m cc : Nat} (hw : Wd zs) (hc : cc < WB) : qJ zs n m cc 0 zs cc := ⟨rfl, hw, hc, by simp [val], fun _ _ => rfl⟩
theorem KZ {P Y Z c x m s c' cc : Nat} (h1 : Y + c * P = Z * m + cc) (h2 : x * m + c = c' * WB + s) : Y + P * s + c' * (P * WB) = (Z + P * x) * m + cc := by
 have h3 : P * (x * m) + P * c = P * (c' * WB) + P * s := by rw [← Nat.mul_add, h2, Nat.mul_add]
 have e1 : c' * (P * WB) = P * (c' * WB) := Nat.mul_left_comm _ _ _
 have e2 : (Z + P * x) * m = Z * m + P * (x * m) := by rw [Nat.add_mul, Nat.mul_assoc]
 have e3 : c * P = P * c := Nat.mul_comm _ _
 omega
theorem qJ.step {zs ys : List Nat} {n m cc j c s c' : Nat} (h : qJ zs n m cc j ys c) (hj : j < zs.length) (hs : s < WB) (hc : c' < WB) (he : zs.getD j 0 * m + c = c' * WB + s) :
  qJ zs n m cc (j + 1) (ys.set j s) c' := by
 refine ⟨by rw [List.length_set, h.len], h.wd.set _ _ hs, hc, ?_, fun k hk => ?_⟩
 ·rw [jD _ _ _ (by rw [h.len]; exact hj), dG zs, Nat.pow_succ]
  exact KZ h.eq he
 ·rw [getD_set_ne _ _ _ _ (by omega)]
  exact h.rest k (by omega)
theorem qJ.QD {zs ys : List Nat} {n m cc V : Nat} (h : qJ zs n m cc n ys 0) (hn : n ≤ zs.length) (hv : zs.take n = toW V) (hm : 1 ≤ m) : toW (V * m + cc) = ys.take n ∧ (toW (V * m + cc)).length = n := by
 have he := h.eq
 rw [hv, dI, Nat.zero_mul, Nat.add_zero] at he
 have hl : (toW V).length = n := by rw [← hv, List.length_take]; omega
 have h1 := qI (h.wd.take n)
 rw [he] at h1
 have h2 : (toW V).length ≤ (toW (V * m + cc)).length := iO (Nat.le_trans (Nat.le_mul_of_pos_right _ hm) (Nat.le_add_right _ _))
 have h3 := eu (h.wd.take n)
 rw [he, List.length_take] at h3
 have h4 : (toW (V * m + cc)).length = n := by omega
 rw [h4, List.take_take, Nat.min_self] at h1
 exact ⟨h1, h4⟩
theorem qJ.room {zs ys : List Nat} {n m cc c V : Nat} (h : qJ zs n m cc n ys c) (hv : zs.take n = toW V) (hc : c ≠ 0) (hfit : (toW (V * m + cc)).length ≤ zs.length) : n < zs.length := by
 have he := h.eq
 rw [hv, dI] at he
 have h2 : WB ^ n < WB ^ (toW (V * m + cc)).length := Nat.lt_of_le_of_lt (by rw [← he]; exact Nat.le_trans (Nat.le_mul_of_pos_left _ (Nat.pos_of_ne_zero hc)) (Nat.le_add_left _ _)) (nV _)
 have := ug h2
 omega
theorem qJ.QE {zs ys : List Nat} {n m cc c V : Nat} (h : qJ zs n m cc n ys c) (hn : n < zs.length) (hv : zs.take n = toW V) (hc : c ≠ 0) :
  toW (V * m + cc) = (ys.set n c).take (n + 1) ∧ (toW (V * m + cc)).length = n + 1 := by
 have he := h.eq
 rw [hv, dI] at he
 have hw := h.wd.set n c h.carry
 have h0 := jD ys n c (by rw [h.len]; exact hn)
 rw [Nat.mul_comm, he] at h0
 have h1 := qI (hw.take (n + 1))
 rw [h0] at h1
 have h3 := eu (hw.take (n + 1))
 rw [h0, List.length_take, List.length_set] at h3
 have h2 : WB ^ n < WB ^ (toW (V * m + cc)).length := Nat.lt_of_le_of_lt (by rw [← he]; exact Nat.le_trans (Nat.le_mul_of_pos_left _ (Nat.pos_of_ne_zero hc)) (Nat.le_add_left _ _)) (nV _)
 have h4 : (toW (V * m + cc)).length = n + 1 := by
  have := ug h2
  omega
 rw [h4, List.take_take, Nat.min_self] at h1
 exact ⟨h1, h4⟩
set_option maxRecDepth 10000 in
set_option maxHeartbeats 1000000 in
theorem AA (w : World) (g : Nat) (zs : List Nat) (n m cc V : Nat) (hr : Row w g zs) (hw : Wd zs) (hn : n ≤ zs.length) (hs : zs.length ≤ 1000000000) (hv : zs.take n = toW V) (hm : 1 ≤ m) (hm2 : m < WB) (hc : cc < WB)
  (hfit : (toW (V * m + cc)).length ≤ zs.length) :
  Calls Tryz.prog 110 #[.slice (some ⟨g, 0, none⟩) n zs.length, .int .u64 (m : Int), .int .u64 (cc : Int)] w fun e w' => ∃ ys,
   e = .returned (.slice (some ⟨g, 0, none⟩) (toW (V * m + cc)).length zs.length) ∧ Row w' g ys ∧ Wd ys ∧ ys.length = zs.length ∧ ys.take (toW (V * m + cc)).length = toW (V * m + cc) ∧ Below g w w' := by
 have HROW := Lib.hid hr
 have HST := Lib.hid (qJ.start (n := n) (m := m) hw hc)
 have HV := Lib.hid hv
 have HFIT := Lib.hid hfit
 have HSELF := Lib.hid (lJ hr)
 generalize hL : zs.length = L at *
 clear hr hw hv hfit
 go_enter Tryz.func110, Tryz.ntmps110
 go_wp2
 go_loopw [2, 13] (fun tc ti wr => ∃ (j c : Nat) (ys : List Nat), tc = .int .u64 (c : Int) ∧ ti = .int .i64 (j : Int) ∧ j ≤ n ∧ Hid (qJ zs n m cc j ys c) ∧ Hid (Row wr g ys ∧ Below g w wr)) (fun _ t _ => n - (intOf t).toNat)
 case atStart => exact ⟨0, cc, zs, rfl, rfl, Nat.zero_le _, HST, Lib.hid ⟨HROW.out, Below.refl _ _⟩⟩
 case round =>
  obtain ⟨j, c, ys, rfl, rfl, hj, HINV, HR⟩ := hrel
  have HYL : Hid (ys.length = L) := Lib.hid (by rw [HINV.out.len, hL])
  by_cases hlt : j < n
  ·have hcz : wr.cell? ⟨g, j, none⟩ = some (.int .u64 ((ys.getD j 0 : Nat) : Int)) := HR.out.1.cell (by rw [HYL.out]; omega)
   have hfz : wr.frozen? ⟨g, j, none⟩ = false := HR.out.1.frozen _
   have hxw := HINV.out.wd.get j
   have hcw := HINV.out.carry
   obtain ⟨hi', lo, hmul, hhi, hlo, hmm⟩ := CV (ys.getD j 0) m hxw hm2
   obtain ⟨s, c1, hrun1, hs1, hc1, he1⟩ := oN lo c 0 hlo hcw (by omega)
   obtain ⟨hsum, hcb⟩ := AQ hxw hm2 hcw hmm.out he1.out
   have HNEXT := Lib.hid (HINV.out.step (s := s) (c' := hi' + c1) (by omega) hs1 hcb (by rw [← HINV.out.rest j (Nat.le_refl _)]; exact hsum))
   rw [show ((0 : Nat) : Int) = 0 from rfl] at hrun1
   have hcb' : hi' + c1 ≤ 18446744073709551615 := by have hW : WB = 18446744073709551616 := rfl; omega
   have HSET := Lib.hid (HR.out.1.set j s)
   have HRR := Lib.hid HR.out
   generalize hpz : ys.getD j 0 = p at *
   clear hpz hsum hcb HR HINV
   go_wp2_with (go_at_call 190; refine (hmul _).mono ?_; rintro e w' ⟨rfl, rfl⟩)
   go_roundw
   case rel => exact ⟨j + 1, hi' + c1, ys.set j s, by simp only [Int.natCast_add], by go_num, by omega, HNEXT, Lib.hid ⟨by rw [HSET.out]; exact HRR.out.1.setB, by rw [HSET.out]; exact kJ HRR.out.2 (Nat.le_refl _) _⟩⟩
   case measure => simp only [intOf]; omega
  ·obtain rfl : j = n := by omega
   by_cases hc0 : c = 0
   ·subst hc0
    have HD := Lib.hid (HINV.out.QD (by rw [hL]; exact hn) HV.out hm)
    go_wp2
    go_ret
    exact ⟨ys, oZ (qj HD.out.2.symm), HR.out.1, HINV.out.wd, HYL.out, by rw [HD.out.2, HD.out.1], HR.out.2⟩
   ·have hjL : j < L := by
     have := HINV.out.room HV.out hc0 (by rw [hL]; exact HFIT.out)
     rwa [hL] at this
    have HD := Lib.hid (HINV.out.QE (by rw [hL]; exact hjL) HV.out hc0)
    have hcne : ((c : Int) != 0) = true := by rw [bne_iff_ne]; omega
    have hrowA : Row (wr.alloc (.cells #[.int .u64 (c : Int)] 22)) g ys := Pq HR.out.1 _
    have hcz : (wr.alloc (.cells #[.int .u64 (c : Int)] 22)).cell? ⟨g, j, none⟩ = some (.int .u64 ((ys.getD j 0 : Nat) : Int)) := hrowA.cell (by rw [HYL.out]; omega)
    have hfz : (wr.alloc (.cells #[.int .u64 (c : Int)] 22)).frozen? ⟨g, j, none⟩ = false := hrowA.frozen _
    have HSET := Lib.hid (hrowA.set j c)
    have HRA := Lib.hid hrowA
    have HWD := Lib.hid (HINV.out.wd.set j c HINV.out.carry)
    have hfitj : j + 1 ≤ L := hjL
    clear hrowA HINV
    go_wp2_with fail
    go_ret
    exact ⟨ys.set j c, oZ (qj HD.out.2.symm), by rw [HSET.out]; exact HRA.out.setB, HWD.out, by rw [List.length_set]; exact HYL.out, by rw [HD.out.2]; exact HD.out.1.symm, by rw [HSET.out]; exact kJ (HR.out.2.alloc (Nat.le_of_lt HR.out.1.lt) _) (Nat.le_refl _) _⟩
end Go.Proofs.YtafikkmnkeddpaaGreatDoor
namespace Go.Proofs.YtafikkmnkeddpaaGreatDoor
open Go.RowKit
def dn (l : List UInt8) : Nat := l.foldl (fun a b => 10 * a + (b.toNat - 48)) 0
def n_ (l : List UInt8) : Prop := ∀ b ∈ l, 48 ≤ b.toNat ∧ b.toNat ≤ 57
theorem FW : dn [] = 0 := rfl
theorem qm (l : List UInt8) (b : UInt8) : dn (l ++ [b]) = 10 * dn l + (b.toNat - 48) := by simp [dn, List.foldl_append]
theorem I7 (l : List UInt8) : ∀ a : Nat, l.foldl (fun a b => 10 * a + (b.toNat - 48)) a = a * 10 ^ l.length + dn l := by
 induction l with
 | nil => intro a; simp [dn]
 | cons b l ih =>
  intro a
  have h0 : dn (b :: l) = l.foldl (fun a b => 10 * a + (b.toNat - 48)) (10 * 0 + (b.toNat - 48)) := rfl
  rw [List.foldl_cons, ih, h0, ih, List.length_cons, Nat.pow_succ]
  generalize 10 ^ l.length = P
  rw [Nat.mul_zero, Nat.zero_add, Nat.add_mul, Nat.mul_comm 10 a, Nat.mul_assoc, Nat.mul_comm 10 P]
  omega
theorem qA (a b : List UInt8) : dn (a ++ b) = dn a * 10 ^ b.length + dn b := by
 unfold dn
 rw [List.foldl_append]
 exact I7 b _
theorem n_.take {l : List UInt8} (h : n_ l) (n : Nat) : n_ (l.take n) := fun b hb => h b (List.mem_of_mem_take hb)
theorem n_.drop {l : List UInt8} (h : n_ l) (n : Nat) : n_ (l.drop n) := fun b hb => h b (List.mem_of_mem_drop hb)
theorem uh {l : List UInt8} (h : n_ l) : dn l < 10 ^ l.length := by
 induction l with
 | nil => simp [dn]
 | cons b l ih =>
  have h1 := ih (fun c hc => h c (List.mem_cons_of_mem _ hc))
  have h2 := h b List.mem_cons_self
  have := qA [b] l
  have e : dn [b] = b.toNat - 48 := by simp [dn]
  rw [List.singleton_append, e] at this
  rw [this, List.length_cons, Nat.pow_succ]
  have h3 : (b.toNat - 48) * 10 ^ l.length ≤ 9 * 10 ^ l.length := Nat.mul_le_mul_right _ (by omega)
  omega
theorem zJ (n : Nat) : 10 ^ n ≤ WB ^ (n / 19 + 1) := by
 have h1 : 10 ^ n ≤ 10 ^ (19 * (n / 19 + 1)) := Nat.pow_le_pow_right (by decide) (by omega)
 have h2 : 10 ^ (19 * (n / 19 + 1)) ≤ WB ^ (n / 19 + 1) := by
  rw [Nat.pow_mul]
  exact Nat.pow_le_pow_left (by decide) _
 exact Nat.le_trans h1 h2
theorem I8 {l : List UInt8} (h : n_ l) {n : Nat} (hl : l.length ≤ n) : (toW (dn l)).length ≤ n / 19 + 1 :=
 jZ (Nat.lt_of_lt_of_le (uh h) (Nat.le_trans (Nat.pow_le_pow_right (by decide) hl) (zJ n)))
set_option maxRecDepth 10000 in
set_option maxHeartbeats 1000000 in
theorem jH (w : World) (s : ByteArray) (h0 : 0 < s.size) (hs : s.size ≤ 20000) (hd : n_ s.data.toList) (hl : (toW (dn s.data.toList)).length ≤ 1024) :
  Calls Tryz.prog 37 #[.string s] w (Bj w (dn s.data.toList)) := by
 have hne : s.toList.isEmpty = false := by
  rw [ByteArray.toList_eq]
  cases hx : s.data.toList with
  | nil =>
   have h3 := congrArg List.length hx
   rw [Array.length_toList] at h3
   exact absurd h3 (by show s.size ≠ 0; omega)
  | cons => rfl
 have hD : Hid (∀ k, (hk : k < s.size) → 48 ≤ s[k].toNat ∧ s[k].toNat ≤ 57) := Lib.hid fun k hk => hd _ (by
  show s.data[k] ∈ s.data.toList
  rw [Array.mem_toList_iff]
  exact Array.getElem_mem _)
 have HDG := Lib.hid hd
 have HL := Lib.hid hl
 clear hd hl
 obtain ⟨C, hC⟩ : ∃ C, C = s.size / 19 + 2 := ⟨_, rfl⟩
 have hmk : ∀ W, (Instr.makeSlice 73 (.int .i64 0) (.int .i64 ((s.size : Int) / 19 + 2))).run Tryz.prog W = .ok (.slice (some ⟨W.heap.size, 0, none⟩) 0 C) (W.alloc (.cells (cO (List.replicate C 0)) 22)) := fun W => by
  have h := run_make_room (P := Tryz.prog) 73 22 (.int .u64 0) 8 Tryz.underlying73 Ho rfl .i64 .i64 C (by omega) (by omega) W
  rw [show ((C : Nat) : Int) = (s.size : Int) / 19 + 2 by omega] at h
  have e : madeCells #[Value.int .u64 0] C = cO (List.replicate C 0) := by
   apply Array.ext
   ·simp [madeCells, cO]
   ·intro i h1 h2
    simp [madeCells, cO, Nat.mod_one]
  rw [h, e]
 have hCb : C ≤ 2000 := by omega
 have HC := Lib.hid hC
 clear hC
 go_enter Tryz.func37, Tryz.ntmps37
 go_wp2
 go_loop [17] (fun t => ∃ k : Nat, t = .int .i64 (k : Int) ∧ k ≤ s.size) (fun t => s.size - (intOf t).toNat)
 case atStart => exact ⟨0, rfl, Nat.zero_le _⟩
 case round =>
  obtain ⟨k, rfl, hk⟩ := hrel
  by_cases hlt : k < s.size
  ·obtain ⟨hb1, hb2⟩ := hD.out k hlt
   have hb1' : (48 : Int) ≤ (s[k].toNat : Int) := by omega
   have hb2' : (s[k].toNat : Int) ≤ 57 := by omega
   clear hb1 hb2
   go_wp2
   go_round
   case rel => exact ⟨k + 1, by go_num, by omega⟩
   case measure => simp only [intOf]; omega
  ·have hr0 := Row.new w (List.replicate C 0)
   have hb0 : Below w.heap.size w (w.alloc (.cells (cO (List.replicate C 0)) 22)) := (Below.refl _ _).alloc (Nat.le_refl _) _
   have HR0 := Lib.hid (And.intro hr0 hb0)
   have hz0 : (toW (dn (s.data.toList.take 0))).length = 0 := by simp [dn, jv]
   have HZ0 := Lib.hid hz0
   clear hr0 hb0 hz0
   go_wp2
   go_loopw [0, 5] (fun ts tx wr => ∃ (j : Nat) (t : ByteArray) (zs : List Nat), ts = .string t ∧ tx = .slice (some ⟨w.heap.size, 0, none⟩) (toW (dn (s.data.toList.take j))).length C ∧ j ≤ s.size ∧ Hid (t.data.toList = s.data.toList.drop j) ∧
    Hid (Row wr w.heap.size zs ∧ Wd zs ∧ zs.length = C ∧ zs.take (toW (dn (s.data.toList.take j))).length = toW (dn (s.data.toList.take j)) ∧ Below w.heap.size w wr)) (fun ts _ _ => match ts with | .string t => t.size | _ => 0)
   case atStart => exact ⟨0, s, List.replicate C 0, rfl, qj HZ0.out.symm, Nat.zero_le _, Lib.hid (by simp), Lib.hid ⟨HR0.out.1, Wd.replicate _, by simp, by simp [dn, jv], HR0.out.2⟩⟩
   case round =>
    obtain ⟨j, t, zs, rfl, rfl, hj, HT, HR⟩ := hrel
    have htl : t.size = s.size - j := by
     have := congrArg List.length HT.out
     rw [List.length_drop, Array.length_toList, Array.length_toList] at this
     exact this
    have HTL := Lib.hid htl
    have ht20 : t.size ≤ 20000 := by omega
    clear htl
    have hDt : Hid (∀ k, (hk : k < t.size) → 48 ≤ t[k].toNat ∧ t[k].toNat ≤ 57) := Lib.hid fun k hk => HDG.out.drop j _ (by
     rw [← HT.out, Array.mem_toList_iff]
     show t.data[k] ∈ t.data
     exact Array.getElem_mem _)
    by_cases hlt2 : 0 < t.size
    ·obtain ⟨q, hq⟩ : ∃ q : Nat, q = (t.size - 1) % 19 + 1 := ⟨_, rfl⟩
     have e1 : ((t.size : Int) - 1) % 19 + 1 = (q : Int) := by omega
     have hq19 : q ≤ 19 := by omega
     have hq1 : 1 ≤ q := by omega
     have hqt : q ≤ t.size := by omega
     clear hq
     have hfit1 := I8 (l := s.data.toList.take (j + q)) (HDG.out.take _) (n := s.size) (by rw [List.length_take, Array.length_toList]; show min _ s.size ≤ s.size; omega)
     have hdv : dn (s.data.toList.take (j + q)) = dn (s.data.toList.take j) * 10 ^ q + dn (t.data.toList.take q) := by
      rw [List.take_add, qA, ← HT.out, List.length_take, Array.length_toList, show min q t.data.size = q from Nat.min_eq_left hqt]
     have HDV := Lib.hid hdv
     have hvlt := uh (l := t.data.toList.take q) (by rw [HT.out]; exact (HDG.out.drop j).take q)
     rw [List.length_take, Array.length_toList, show min q t.data.size = q from Nat.min_eq_left hqt] at hvlt
     have h1019 : 10 ^ q ≤ 10 ^ 19 := Nat.pow_le_pow_right (by decide) hq19
     have htp := AA wr w.heap.size zs (toW (dn (s.data.toList.take j))).length (10 ^ q) (dn (t.data.toList.take q)) (dn (s.data.toList.take j)) HR.out.1 HR.out.2.1
      (by have := congrArg List.length HR.out.2.2.2.1; rw [List.length_take] at this; omega) (by rw [HR.out.2.2.1]; omega) HR.out.2.2.2.1 (Nat.pow_pos (by decide)) (Nat.lt_of_le_of_lt h1019 (by decide)) (Nat.lt_of_lt_of_le hvlt (Nat.le_trans h1019 (by decide)))
      (by rw [HR.out.2.2.1, ← hdv]; have := HC.out; omega)
     rw [← hdv, HR.out.2.2.1] at htp
     have HTP := Lib.hid htp
     have HB := Lib.hid HR.out.2.2.2.2
     clear htp hdv hvlt h1019 hfit1 HR
     obtain ⟨wo, rfl⟩ : ∃ wo : World, wo = wr := ⟨_, rfl⟩
     go_wp2
     go_loop [7, 8, 45] (fun tv tc ti => ∃ i v c : Nat, tv = .int .u64 (v : Int) ∧ tc = .int .u64 (c : Int) ∧ ti = .int .i64 (i : Int) ∧ i ≤ q ∧ Hid (v = dn (t.data.toList.take i) ∧ c = 10 ^ i)) (fun _ _ ti => q - (intOf ti).toNat)
     case atStart => exact ⟨0, 0, 1, rfl, rfl, rfl, Nat.zero_le _, Lib.hid ⟨by simp [dn], by simp⟩⟩
     case round =>
      obtain ⟨i, v, c, rfl, rfl, rfl, hi, HV⟩ := hrel
      by_cases hlt3 : i < q
      ·have hit : i < t.size := by omega
       obtain ⟨hb1, hb2⟩ := hDt.out i hit
       have hb1' : (48 : Int) ≤ (t[i].toNat : Int) := by omega
       have hb2' : (t[i].toNat : Int) ≤ 57 := by omega
       have hv18 : v ≤ 1000000000000000000 ∧ c ≤ 1000000000000000000 := by
        have h1 := uh (l := t.data.toList.take i) (by rw [HT.out]; exact (HDG.out.drop j).take i)
        have h2 : 10 ^ i ≤ 10 ^ 18 := Nat.pow_le_pow_right (by decide) (by omega)
        rw [List.length_take, Array.length_toList, show min i t.data.size = i from Nat.min_eq_left (by show i ≤ t.size; omega)] at h1
        rw [HV.out.1, HV.out.2]
        exact ⟨Nat.le_trans (Nat.le_of_lt h1) h2, h2⟩
       obtain ⟨hv18, hc18⟩ := hv18
       have HN : Hid (10 * v + (t[i].toNat - 48) = dn (t.data.toList.take (i + 1)) ∧ c * 10 = 10 ^ (i + 1)) := Lib.hid ⟨by
        rw [List.take_succ_eq_append_getElem (by rw [Array.length_toList]; exact hit), qm, HV.out.1]
        rfl, by rw [HV.out.2, Nat.pow_succ]⟩
       have hbe : ((10 * v + (t[i].toNat - 48) : Nat) : Int) = 10 * (v : Int) + ((t[i].toNat : Int) - 48) := by omega
       have HBE := Lib.hid hbe
       clear hb1 hb2 hbe
       go_wp2
       go_round
       case rel => exact ⟨i + 1, _, _, pO HBE.out.symm, by go_num, by go_num, by omega, HN⟩
       case measure => simp only [intOf]; omega
      ·obtain rfl : i = q := by omega
       have htp := HTP.out
       rw [← HV.out.2, ← HV.out.1] at htp
       have hij : j + i ≤ s.size := by have := HTL.out; omega
       have hsz : (t.extract i t.size).size = t.size - i := by simp [ByteArray.size_extract]
       have HSZ := Lib.hid hsz
       have HEX : Hid ((t.extract i t.size).data.toList = s.data.toList.drop (j + i)) := Lib.hid (by rw [Lib.extract_to_end, HT.out, List.drop_drop])
       clear hsz HTP
       go_wp2_with fail
       refine htp.mono ?_
       rintro e w2 ⟨ys, rfl, hr2, hw2, hl2, ht2, hb2⟩
       have HE : Hid (Row w2 w.heap.size ys ∧ Wd ys ∧ ys.length = C ∧ ys.take (toW (dn (s.data.toList.take (j + i)))).length = toW (dn (s.data.toList.take (j + i))) ∧ Below w.heap.size w w2) := Lib.hid ⟨hr2, hw2, hl2, ht2, HB.out.trans hb2⟩
       clear hr2 hw2 hl2 ht2 hb2
       go_wp2
       go_roundw
       case rel => exact ⟨j + i, t.extract i t.size, ys, rfl, rfl, hij, HEX, HE⟩
       case measure => simp only [HSZ.out]; omega
    ·obtain rfl : j = s.size := by have := HTL.out; omega
     have hall : s.data.toList.take s.size = s.data.toList := List.take_of_length_le (by rw [Array.length_toList]; exact Nat.le_refl _)
     rw [hall] at HR
     simp only [hall]
     have hO : ku w.heap.size wr (some ⟨w.heap.size, 0, none⟩) C (dn s.data.toList) := by
      have h1 := (HR.out.1.sl HR.out.2.1 (c := C) (by rw [HR.out.2.2.1]; exact Nat.le_refl _) (by omega)).take (toW (dn s.data.toList)).length
      rw [HR.out.2.2.2.1] at h1
      exact ⟨h1, .inr ⟨_, zs, rfl, Nat.le_refl _, HR.out.1, HR.out.2.2.1, HR.out.2.1, HR.out.2.2.2.1, by omega⟩⟩
     have hg1 := mG (wr.alloc (.cells #[.slice (some ⟨w.heap.size, 0, none⟩) (toW (dn s.data.toList)).length C] 73)) wr.heap.size _ C _ (by simp) (hO.sl.alloc _)
     rw [dI, show decide (1024 < (toW (dn s.data.toList)).length) = false by have := HL.out; simp; omega] at hg1
     have htr := cZ _ _ _ _ (hO.sl.alloc (.cells #[.slice (some ⟨w.heap.size, 0, none⟩) (toW (dn s.data.toList)).length C] 73))
     rw [dI] at htr
     have HO := Lib.hid (And.intro hO HR.out.2.2.2.2)
     clear hall hO HR
     go_wp2_with fail
     refine hg1.mono ?_
     rintro e w' ⟨rfl, rfl⟩
     go_wp2_with fail
     refine htr.mono ?_
     rintro e w' ⟨rfl, rfl⟩
     go_wp2
     go_ret2
     exact ⟨_, _, rfl, HO.out.1.alloc _, HO.out.2.alloc HO.out.2.size _⟩
end Go.Proofs.YtafikkmnkeddpaaGreatDoor
namespace Go.Proofs.YtafikkmnkeddpaaGreatDoor
open Go.RowKit Go.Proofs.YtafikkmnkeddpaaGreatDoorW.PrintWords Go.Proofs.YtafikkmnkeddpaaGreatDoorW.PrintLast
def toI (xs : List Nat) : List Int := xs.map fun (x : Nat) => (x : Int)
def ofI (l : List Int) : List Nat := l.map Int.toNat
def WdI (l : List Int) : Prop := ∀ x ∈ l, 0 ≤ x ∧ x < 18446744073709551616
instance (l : List Int) : Decidable (WdI l) := by unfold WdI; infer_instance
theorem kH (xs : List Nat) : (toI xs).length = xs.length := by simp [toI]
theorem gG (l : List Int) : (ofI l).length = l.length := by simp [ofI]
theorem Hg (xs : List Nat) : ofI (toI xs) = xs := by
 unfold ofI toI
 rw [List.map_map]
 conv => rhs; rw [← List.map_id xs]
 rfl
theorem Rh {l : List Int} (h : WdI l) : toI (ofI l) = l := by
 unfold ofI toI
 rw [List.map_map]
 conv => rhs; rw [← List.map_id l]
 apply List.map_congr_left
 intro x hx
 have := h x hx
 simp
 omega
theorem Ny {xs : List Nat} (h : Wd xs) : WdI (toI xs) := fun x hx => by
 obtain ⟨y, hy, rfl⟩ := List.mem_map.1 hx
 have : y < 18446744073709551616 := h y hy
 omega
theorem KL {l : List Int} (h : WdI l) : Wd (ofI l) := fun y hy => by
 obtain ⟨x, hx, rfl⟩ := List.mem_map.1 hy
 have := h x hx
 show x.toNat < 18446744073709551616
 omega
def vI (l : List Int) : Nat := val (ofI l)
def wI (v : Nat) : List Int := toI (toW v)
theorem kQ (v : Nat) : vI (wI v) = v := by unfold vI wI; rw [Hg, dI]
theorem KN (v : Nat) : WdI (wI v) := Ny (kX v)
theorem jC (v : Nat) : (wI v).length = (toW v).length := kH _
theorem KO {l : List Int} (h : WdI l) (j : Nat) : ((ofI l).getD j 0 : Int) = l.getD j 0 := by
 rw [List.getD_eq_getElem?_getD, List.getD_eq_getElem?_getD]
 unfold ofI
 rw [List.getElem?_map]
 cases hx : l[j]? with
 | none => rfl
 | some x =>
  have := h x (List.mem_of_getElem? hx)
  simp
  omega
theorem yh {w : World} {A : Option Addr} {c : Nat} {l : List Int} (h : Kd.C (Kd.int .u64) w A l.length l) (hc : l.length ≤ c) (hw : WdI l) (hs : l.length ≤ 1000000000000) : Sl w A c (ofI l) := by
 refine ⟨fun hp => ?_, KL hw, by rw [gG]; exact hc, by rw [gG]; exact hs⟩
 rw [gG] at hp
 obtain ⟨ad, rfl, hcell⟩ := h.2.2 hp
 have hat : ∀ j, j < l.length → w.cell? (ad.add j) = some (.int .u64 (l.getD j 0)) := fun j hj => by
  obtain ⟨cc, h1, h2, h3⟩ := hcell j _ (List.getElem?_eq_getElem hj)
  have h2' : cc = [Value.int .u64 l[j]] := h2
  have := h3 0 (.int .u64 l[j]) (by rw [h2']; rfl)
  rw [show j * (Kd.int .u64).sz + 0 = j from by show j * 1 + 0 = j; omega] at this
  rw [this, List.getD_eq_getElem?_getD, List.getElem?_eq_getElem hj]; rfl
 obtain ⟨b, o, sp⟩ := ad
 have h0 := hat 0 hp
 have hsp : sp = none := by
  cases sp with
  | none => rfl
  | some x => exact absurd h0 (by simp [World.cell?, Addr.add]; split <;> simp)
 subst hsp
 refine ⟨b, o, rfl, World.block_lt_of_cell? w _ h0, fun j hj => ?_⟩
 rw [gG] at hj
 have := hat j hj
 rw [KO hw]
 unfold Addr.add at this
 split at this
 ·rename_i hz; subst hz; simpa using this
 ·simpa using this
theorem kV {B : Nat} {w : World} {A : Option Addr} {c v : Nat} {ok : Nat → Prop} (h : ku B w A c v) (hok : ∀ k, B ≤ k → ok k) : Kd.R (Kd.int .u64) 22 w B ok (.slice A (toW v).length c) (wI v) := by
 refine Kd.kV (enc := Value.int .u64) ?_ ?_
 ·rcases h.row with ⟨rfl, rfl, h0⟩ | ⟨g, zs, rfl, hg, hrow, hc, hw, ht, hs⟩
  ·refine ⟨by simp [wI, toI, h0, encs], .inl ⟨by rw [h0]; rfl, by simp [wI, toI, h0]⟩⟩
  ·refine ⟨by simp [wI, toI, encs], .inr ⟨g, c, cO zs, by rw [jC], hg, hrow, ?_, ?_, ?_, ?_⟩⟩
   ·rw [jC]; exact h.sl.cap
   ·unfold maxLen; omega
   ·rw [sO, hc, Nat.mul_one]
   ·rw [jC, Nat.mul_one]
    have : ((toW v).map fun x => Value.int .u64 ((x : Nat) : Int)) = encs (Value.int .u64) (wI v) := by simp [encs, wI, toI]
    rw [← this]
    conv => rhs; rw [← ht]
    simp [cO, List.map_take]
 ·intro k hk
  rcases h.row with ⟨rfl, rfl, h0⟩ | ⟨g, zs, rfl, hg, hrow, hc, hw, ht, hs⟩
  ·simp [Value.ownBlock] at hk
  ·have : g = k := by simpa [Value.ownBlock] using hk
   subst this
   exact hok _ hg
theorem Bg {B : Nat} {w : World} {A : Option Addr} {c v : Nat} {ok : Nat → Prop} (h : ku B w A c v) (hok : ∀ k, (Value.slice A (toW v).length c).ownBlock = some k → ok k) : Kd.R (Kd.int .u64) 22 w B ok (.slice A (toW v).length c) (wI v) :=
 Kd.kV (enc := Value.int .u64) (Kd.tX (kV (ok := fun _ => True) h fun _ _ => trivial)) hok
section
variable {P : Program} {ops : Array Oper} {rest : List Oper} {o : Oper} {a : Act} {Q : Exit → Act → World → Prop} {α : Type}
theorem Kd.Nz (d : Kd α) {w0 W : World} (base e : Nat) (hgd : o.guard = none) {N : Tmp} (hd : o.dst = some N) (t : TypeId) (x y : Operand) (ho : o.op = .makeSlice t x y) (n : Int) (hx : a.eval x = .int .i64 0) (hy : a.eval y = .int .i64 n)
  (ht : P.underlying t = some (.slice e)) (z : Value) (bytes : Nat) (hinfo : (P.info? e).map (fun i => (i.zero, i.size, i.bytes)) = some (some z, d.sz, bytes)) (hz : z.cells.size = d.sz) (hs0 : 0 < d.sz) (hb0 : 0 < bytes)
  (z0 : α) {ok okp : Nat → Prop} (hzero : d.M W base okp z0 z.cells.toList) (hok : ∀ k, okp k → ok k) (hfresh : ok W.heap.size) (h0 : 0 ≤ n) (hl : n.toNat * bytes ≤ 281474976710656) (HB : Below base w0 W) (hbase : base ≤ W.heap.size)
  (h : ∀ v1 w1, d.R e w1 base ok v1 [] → Below base w0 w1 → W.grownBy w1 none → (∃ b, v1.ownBlock = some b ∧ W.heap.size ≤ b) → wpList P ops Q rest (a.put o.dst v1) w1) : wpList P ops Q (o :: rest) a W := by
 obtain ⟨m, rfl⟩ := Int.eq_ofNat_of_zero_le h0
 simp only [Int.toNat_natCast] at hl
 obtain ⟨i0, hi, hzz⟩ := Option.map_eq_some_iff.1 hinfo
 simp only [Prod.mk.injEq] at hzz
 obtain ⟨hz0, hz1, hz2⟩ := hzz
 have hm : m ≤ 281474976710656 := Nat.le_trans (Nat.le_mul_of_pos_right _ hb0) hl
 have hr := run_make (P := P) W t e i0 z ht hi hz0 .i64 .i64 0 (m : Int) (by omega) (by omega)
  (by
   have h3 : ((i0.bytes * m : Nat) : Int) ≤ 281474976710656 := by rw [hz2, Nat.mul_comm]; omega
   rwa [Int.natCast_mul] at h3) (by omega)
 simp only [Int.toNat_natCast] at hr
 rw [hz1] at hr
 refine Kd.BJ (w1 := W.alloc (.cells (madeCells z.cells (m * d.sz)) e)) (v := .slice (some ⟨W.heap.size, 0, none⟩) 0 m) hgd (by simp [execOp, ho, hx, hy, hr]) (h _ _ ⟨fun k hk => ?_, [], ?_, nM.none _ _⟩ (HB.alloc hbase _) (World.grownBy_alloc W _ none) ⟨W.heap.size, by simp [Value.ownBlock], Nat.le_refl _⟩)
 ·have : W.heap.size = k := by simpa [Value.ownBlock] using hk
  subst this
  exact hfresh
 ·exact World.ownsRow_made W _ m hbase (by unfold maxLen; omega) (by simp [size_madeCells])
end
def mF (l : List (List Int)) : Bool := l.any fun x => decide (1024 < (toW (vI x)).length)
set_option maxRecDepth 10000 in
set_option maxHeartbeats 1000000 in
theorem Ar (w : World) (A : Option Addr) (c : Nat) (l : List (List Int)) (hA : 0 < l.length → ∃ g o, A = some ⟨g, o, none⟩ ∧ ∀ (j : Nat) xs, l[j]? = some xs → ∃ B d, w.cell? ⟨g, o + j, none⟩ = some (.slice B xs.length d) ∧ Sl w B d (ofI xs)) (hl : l.length ≤ 100) :
  Calls Tryz.prog 111 #[.slice A l.length c] w fun e w' => e = .returned (.bool (mF l)) ∧ w = w' := by
 by_cases h0 : l.length = 0
 ·have h1 : l = [] := List.length_eq_zero_iff.1 h0
  subst h1
  go_enter Tryz.func111, Tryz.ntmps111
  go_wp2
  go_loop [7] (fun t => t = .int .i64 0) (fun _ => 0)
  case atStart => rfl
  case round =>
   subst hrel
   go_wp2
   go_ret
   exact ⟨rfl, rfl⟩
 obtain ⟨g, o, rfl, hc⟩ := hA (by omega)
 have H := Lib.hid hc
 clear hc hA h0
 go_enter Tryz.func111, Tryz.ntmps111
 go_wp2
 go_loop [7] (fun t => ∃ k : Nat, t = .int .i64 k ∧ k ≤ l.length ∧ Hid (mF (l.take k) = false)) (fun t => (l.length - (intOf t).toNat))
 case atStart => exact ⟨0, rfl, Nat.zero_le _, Lib.hid (by simp [mF])⟩
 case round =>
  obtain ⟨k, rfl, hk, hz⟩ := hrel
  by_cases hlt : k < l.length
  ·obtain ⟨xs, hx⟩ : ∃ t, l[k]? = some t := ⟨l[k], List.getElem?_eq_getElem hlt⟩
   obtain ⟨B, d, hcell, hs⟩ := H.out k xs hx
   have htr := cZ w B d (ofI xs) hs
   rw [gG] at htr
   have HTK : Hid (mF (l.take (k + 1)) = decide (1024 < (toW (vI xs)).length)) := by
    refine Lib.hid ?_
    have := hz.out
    unfold mF at *
    rw [List.take_add_one, hx, List.any_append, this]
    simp
   have HX := Lib.hid hx
   have HV : Hid (val (ofI xs) = vI xs) := Lib.hid rfl
   clear hx hs
   by_cases hgt : 1024 < (toW (val (ofI xs))).length
   ·have HF : Hid (mF l = true) := by
     refine Lib.hid ?_
     unfold mF
     rw [List.any_eq_true]
     refine ⟨_, List.mem_of_getElem? HX.out, ?_⟩
     rw [← HV.out]
     simpa using hgt
    go_wp2_with (go_at_call 112; refine htr.mono ?_; rintro e w' ⟨rfl, rfl⟩)
    go_ret
    exact ⟨oZ (qZ HF.out.symm), rfl⟩
   ·have HF : Hid (mF (l.take (k + 1)) = false) := Lib.hid (by rw [HTK.out, ← HV.out]; simpa using hgt)
    go_wp2_with (go_at_call 112; refine htr.mono ?_; rintro e w' ⟨rfl, rfl⟩)
    go_round
    case rel => exact ⟨k + 1, by go_num, by omega, HF⟩
    case measure => simp only [intOf]; omega
  ·have HF : Hid (mF l = false) := by
    have := hz.out
    rw [List.take_of_length_le (by omega)] at this
    exact Lib.hid this
   go_wp2
   go_ret
   exact ⟨oZ (qZ HF.out.symm), rfl⟩
end Go.Proofs.YtafikkmnkeddpaaGreatDoor
namespace Go.Proofs.YtafikkmnkeddpaaGreatDoor.Q
open Go.RowKit Go.Proofs.YtafikkmnkeddpaaGreatDoorW.PrintWords Go.Proofs.YtafikkmnkeddpaaGreatDoorW.PrintLast
def Fz (l : List (List Int)) : Prop := l.length ≤ 100 ∧ ∀ x ∈ l, WdI x ∧ x.length ≤ 1000000000
instance (l : List (List Int)) : Decidable (Fz l) := by unfold Fz; infer_instance
def kE.f (l0 : List (List Int)) : Option Bool := if Fz l0 then some (mF l0) else none
theorem kE.calls (A0 : Option Addr) (c0 : Nat) (l0 : List (List Int)) (r : Bool) (w : World) (hr0 : Kd.C (Kd.slice 22 (Kd.int .u64)) w A0 l0.length l0) (hc0 : l0.length ≤ c0) (h : kE.f l0 = some r) :
  Calls Tryz.prog 111 #[.slice A0 l0.length c0] w fun e w' => e = .returned (.bool r) ∧ nG w w' := by
 unfold kE.f at h
 split at h
 ·rename_i hok
  obtain rfl := Option.some.inj h
  refine (Ar w A0 c0 l0 (fun hp => ?_) hok.1).mono fun e w' he => ⟨he.1, he.2 ▸ nG.refl w⟩
  obtain ⟨ad, rfl, hcell⟩ := hr0.2.2 hp
  have hat : ∀ (j : Nat) xs, l0[j]? = some xs → ∃ B d, w.cell? (ad.add j) = some (.slice B xs.length d) ∧ xs.length ≤ d ∧ Kd.C (Kd.int .u64) w B xs.length xs := fun j xs hj => by
   obtain ⟨cc, h1, ⟨B, d, h2, h2l, h2c⟩, h3⟩ := hcell j xs hj
   have := h3 0 (.slice B xs.length d) (by rw [h2]; rfl)
   rw [show j * (Kd.slice 22 (Kd.int .u64)).sz + 0 = j from by show j * 1 + 0 = j; omega] at this
   exact ⟨B, d, this, h2l, h2c⟩
  obtain ⟨b, o, sp⟩ := ad
  obtain ⟨x0, hx0⟩ : ∃ x, l0[0]? = some x := ⟨l0[0], List.getElem?_eq_getElem hp⟩
  obtain ⟨B0, d0, h0, _⟩ := hat 0 x0 hx0
  have hsp : sp = none := by
   cases sp with
   | none => rfl
   | some x => exact absurd h0 (by simp [World.cell?, Addr.add]; split <;> simp)
  subst hsp
  refine ⟨b, o, rfl, fun j xs hj => ?_⟩
  obtain ⟨B, d, h1, h2, h3⟩ := hat j xs hj
  have hx := hok.2 xs (List.mem_of_getElem? hj)
  refine ⟨B, d, ?_, yh h3 h2 hx.1 (by omega)⟩
  unfold Addr.add at h1
  split at h1
  ·rename_i hz; subst hz; simpa using h1
  ·simpa using h1
 ·cases h
def jd.f (l0 : List Int) : Option (List Int) := if WdI l0 ∧ l0.length ≤ 1000000000 then some (wI (vI l0)) else none
theorem jd.calls (A0 : Option Addr) (c0 : Nat) (l0 : List Int) (r : List Int) (w : World) (hr0 : Kd.C (Kd.int .u64) w A0 l0.length l0) (hc0 : l0.length ≤ c0) (h : jd.f l0 = some r) :
  Calls Tryz.prog 172 #[.slice A0 l0.length c0] w fun e w' => ∃ v0_ : Value, e = .returned (v0_) ∧ Kd.R (Kd.int .u64) 22 w' w.heap.size (fun _ => True) v0_ r ∧ Below w.heap.size w w' := by
 unfold jd.f at h
 split at h
 ·rename_i hok
  obtain rfl := Option.some.inj h
  have := jd w A0 c0 (ofI l0) (yh hr0 hc0 hok.1 (by omega))
  rw [gG] at this
  refine this.mono ?_
  rintro e w' ⟨g, rfl, hg, hrow, hb⟩
  have hl := eu (KL hok.1)
  rw [gG] at hl
  exact ⟨_, rfl, kV (ku.oh hrow (kX _) hg (dI _) rfl (by omega)) (fun _ _ => trivial), hb⟩
 ·cases h
def ni.f (a0 a1 a2 : Int) : Option (Int × Int) := if 0 ≤ a0 ∧ a0 < a2 ∧ 0 ≤ a1 ∧ a1 < 18446744073709551616 ∧ a2 < 18446744073709551616 then some ((a0 * 18446744073709551616 + a1) / a2, (a0 * 18446744073709551616 + a1) % a2) else none
theorem ni.calls (a0 a1 a2 : Int) (r1 r2 : Int) (w : World) (h : ni.f a0 a1 a2 = some (r1, r2)) :
  Calls Tryz.prog 221 #[.int .u64 a0, .int .u64 a1, .int .u64 a2] w fun e w' => e = .returned (.tuple #[.int .u64 r1, .int .u64 r2]) ∧ nG w w' := by
 unfold ni.f at h
 split at h
 ·rename_i hok
  obtain ⟨h0, h1, h2, h3, h4⟩ := hok
  simp only [Option.some.injEq, Prod.mk.injEq] at h
  obtain ⟨rfl, rfl⟩ := h
  obtain ⟨m, rfl⟩ := Int.eq_ofNat_of_zero_le h0
  obtain ⟨n, rfl⟩ := Int.eq_ofNat_of_zero_le h2
  obtain ⟨d, rfl⟩ := Int.eq_ofNat_of_zero_le (show 0 ≤ a2 by omega)
  refine (JB m n d (by omega) (by show d < 18446744073709551616; omega) (by show n < 18446744073709551616; omega) w).mono ?_
  rintro e w' ⟨rfl, n', rfl⟩
  refine ⟨?_, ⟨⟨n', rfl⟩⟩⟩
  have e1 : ((m * WB + n : Nat) : Int) = (m : Int) * 18446744073709551616 + n := by rw [Int.natCast_add, Int.natCast_mul]; rfl
  rw [Int.natCast_ediv, Int.natCast_emod, e1]
 ·cases h
end Go.Proofs.YtafikkmnkeddpaaGreatDoor.Q
namespace Go.Proofs.YtafikkmnkeddpaaGreatDoor
open Go.RowKit
def uf : List Int := [16, 11, -14, 15, 16, 8, -126, 127, 32, 24, -126, 127, 64, 53, -1022, 1023]
def jA (w : World) : Prop := 2 < w.heap.size ∧ ∀ j, j < 16 → w.cell? ⟨2, j, none⟩ = some (.int .i64 (uf.getD j 0))
theorem jA.below {w w' : World} (h : jA w) (hb : Below w.heap.size w w') : jA w' :=
 ⟨Nat.lt_of_lt_of_le h.1 hb.size, fun j hj => (hb.cell (p := ⟨2, j, none⟩) h.1).trans (h.2 j hj)⟩
set_option maxRecDepth 10000 in
set_option maxHeartbeats 1000000 in
theorem lQ (w : World) (hR : jA w) : Calls Tryz.prog 52 #[.int .i64 0] w fun e w' => e = .returned (.tuple #[.agg #[.int .i64 16, .int .i64 11, .int .i64 (-14), .int .i64 15], .int .i64 0]) ∧ Below w.heap.size w w' := by
 have hA := hR.below ((Below.refl w.heap.size w).alloc (Nat.le_refl _) (.cells #[.int .i64 0, .int .i64 0, .int .i64 0, .int .i64 0] 88))
 have h0 : (w.alloc (.cells #[.int .i64 0, .int .i64 0, .int .i64 0, .int .i64 0] 88)).cell? ⟨2, 0, none⟩ = some (.int .i64 16) := hA.2 0 (by decide)
 have h1 : (w.alloc (.cells #[.int .i64 0, .int .i64 0, .int .i64 0, .int .i64 0] 88)).cell? ⟨2, 1, none⟩ = some (.int .i64 11) := hA.2 1 (by decide)
 have h2 : (w.alloc (.cells #[.int .i64 0, .int .i64 0, .int .i64 0, .int .i64 0] 88)).cell? ⟨2, 2, none⟩ = some (.int .i64 (-14)) := hA.2 2 (by decide)
 have h3 : (w.alloc (.cells #[.int .i64 0, .int .i64 0, .int .i64 0, .int .i64 0] 88)).cell? ⟨2, 3, none⟩ = some (.int .i64 15) := hA.2 3 (by decide)
 have HR := Lib.hid hR
 clear hR hA
 go_enter Tryz.func52, Tryz.ntmps52
 go_wp2
 exact bodyPost_ret (v := .tuple #[.agg #[.int .i64 16, .int .i64 11, .int .i64 (-14), .int .i64 15], .int .i64 0]) (by simp [results, Tryz.results52, go_sem]) rfl ⟨rfl, (((Below.refl _ _).alloc (Nat.le_refl _) _))⟩
set_option maxRecDepth 10000 in
set_option maxHeartbeats 1000000 in
theorem lS (w : World) (hR : jA w) : Calls Tryz.prog 52 #[.int .i64 1] w fun e w' => e = .returned (.tuple #[.agg #[.int .i64 16, .int .i64 8, .int .i64 (-126), .int .i64 127], .int .i64 0]) ∧ Below w.heap.size w w' := by
 have hA := hR.below ((Below.refl w.heap.size w).alloc (Nat.le_refl _) (.cells #[.int .i64 0, .int .i64 0, .int .i64 0, .int .i64 0] 88))
 have h0 : (w.alloc (.cells #[.int .i64 0, .int .i64 0, .int .i64 0, .int .i64 0] 88)).cell? ⟨2, 4, none⟩ = some (.int .i64 16) := hA.2 4 (by decide)
 have h1 : (w.alloc (.cells #[.int .i64 0, .int .i64 0, .int .i64 0, .int .i64 0] 88)).cell? ⟨2, 5, none⟩ = some (.int .i64 8) := hA.2 5 (by decide)
 have h2 : (w.alloc (.cells #[.int .i64 0, .int .i64 0, .int .i64 0, .int .i64 0] 88)).cell? ⟨2, 6, none⟩ = some (.int .i64 (-126)) := hA.2 6 (by decide)
 have h3 : (w.alloc (.cells #[.int .i64 0, .int .i64 0, .int .i64 0, .int .i64 0] 88)).cell? ⟨2, 7, none⟩ = some (.int .i64 127) := hA.2 7 (by decide)
 have HR := Lib.hid hR
 clear hR hA
 go_enter Tryz.func52, Tryz.ntmps52
 go_wp2
 exact bodyPost_ret (v := .tuple #[.agg #[.int .i64 16, .int .i64 8, .int .i64 (-126), .int .i64 127], .int .i64 0]) (by simp [results, Tryz.results52, go_sem]) rfl ⟨rfl, (((Below.refl _ _).alloc (Nat.le_refl _) _))⟩
set_option maxRecDepth 10000 in
set_option maxHeartbeats 1000000 in
theorem lT (w : World) (hR : jA w) : Calls Tryz.prog 52 #[.int .i64 2] w fun e w' => e = .returned (.tuple #[.agg #[.int .i64 32, .int .i64 24, .int .i64 (-126), .int .i64 127], .int .i64 0]) ∧ Below w.heap.size w w' := by
 have hA := hR.below ((Below.refl w.heap.size w).alloc (Nat.le_refl _) (.cells #[.int .i64 0, .int .i64 0, .int .i64 0, .int .i64 0] 88))
 have h0 : (w.alloc (.cells #[.int .i64 0, .int .i64 0, .int .i64 0, .int .i64 0] 88)).cell? ⟨2, 8, none⟩ = some (.int .i64 32) := hA.2 8 (by decide)
 have h1 : (w.alloc (.cells #[.int .i64 0, .int .i64 0, .int .i64 0, .int .i64 0] 88)).cell? ⟨2, 9, none⟩ = some (.int .i64 24) := hA.2 9 (by decide)
 have h2 : (w.alloc (.cells #[.int .i64 0, .int .i64 0, .int .i64 0, .int .i64 0] 88)).cell? ⟨2, 10, none⟩ = some (.int .i64 (-126)) := hA.2 10 (by decide)
 have h3 : (w.alloc (.cells #[.int .i64 0, .int .i64 0, .int .i64 0, .int .i64 0] 88)).cell? ⟨2, 11, none⟩ = some (.int .i64 127) := hA.2 11 (by decide)
 have HR := Lib.hid hR
 clear hR hA
 go_enter Tryz.func52, Tryz.ntmps52
 go_wp2
 exact bodyPost_ret (v := .tuple #[.agg #[.int .i64 32, .int .i64 24, .int .i64 (-126), .int .i64 127], .int .i64 0]) (by simp [results, Tryz.results52, go_sem]) rfl ⟨rfl, (((Below.refl _ _).alloc (Nat.le_refl _) _))⟩
set_option maxRecDepth 10000 in
set_option maxHeartbeats 1000000 in
theorem lU (w : World) (hR : jA w) : Calls Tryz.prog 52 #[.int .i64 3] w fun e w' => e = .returned (.tuple #[.agg #[.int .i64 64, .int .i64 53, .int .i64 (-1022), .int .i64 1023], .int .i64 0]) ∧ Below w.heap.size w w' := by
 have hA := hR.below ((Below.refl w.heap.size w).alloc (Nat.le_refl _) (.cells #[.int .i64 0, .int .i64 0, .int .i64 0, .int .i64 0] 88))
 have h0 : (w.alloc (.cells #[.int .i64 0, .int .i64 0, .int .i64 0, .int .i64 0] 88)).cell? ⟨2, 12, none⟩ = some (.int .i64 64) := hA.2 12 (by decide)
 have h1 : (w.alloc (.cells #[.int .i64 0, .int .i64 0, .int .i64 0, .int .i64 0] 88)).cell? ⟨2, 13, none⟩ = some (.int .i64 53) := hA.2 13 (by decide)
 have h2 : (w.alloc (.cells #[.int .i64 0, .int .i64 0, .int .i64 0, .int .i64 0] 88)).cell? ⟨2, 14, none⟩ = some (.int .i64 (-1022)) := hA.2 14 (by decide)
 have h3 : (w.alloc (.cells #[.int .i64 0, .int .i64 0, .int .i64 0, .int .i64 0] 88)).cell? ⟨2, 15, none⟩ = some (.int .i64 1023) := hA.2 15 (by decide)
 have HR := Lib.hid hR
 clear hR hA
 go_enter Tryz.func52, Tryz.ntmps52
 go_wp2
 exact bodyPost_ret (v := .tuple #[.agg #[.int .i64 64, .int .i64 53, .int .i64 (-1022), .int .i64 1023], .int .i64 0]) (by simp [results, Tryz.results52, go_sem]) rfl ⟨rfl, (((Below.refl _ _).alloc (Nat.le_refl _) _))⟩
theorem uF (w : World) (f : Int) (hf : f < 0 ∨ 3 < f) : Calls Tryz.prog 52 #[.int .i64 f] w fun e w' => e = .returned (.tuple #[.agg #[.int .i64 0, .int .i64 0, .int .i64 0, .int .i64 0], .int .i64 2]) ∧ Below w.heap.size w w' := by
 rcases hf with h | h
 ·go_enter Tryz.func52, Tryz.ntmps52
  go_wp2
  exact bodyPost_ret (v := .tuple #[.agg #[.int .i64 0, .int .i64 0, .int .i64 0, .int .i64 0], .int .i64 2]) (by simp [results, Tryz.results52, go_sem]) rfl ⟨rfl, (((Below.refl _ _).alloc (Nat.le_refl _) _))⟩
 ·have h0 : ¬ f < 0 := by omega
  have h4 : 4 ≤ f := by omega
  go_enter Tryz.func52, Tryz.ntmps52
  go_wp2
  exact bodyPost_ret (v := .tuple #[.agg #[.int .i64 0, .int .i64 0, .int .i64 0, .int .i64 0], .int .i64 2]) (by simp [results, Tryz.results52, go_sem]) rfl ⟨rfl, (((Below.refl _ _).alloc (Nat.le_refl _) _))⟩
end Go.Proofs.YtafikkmnkeddpaaGreatDoor
namespace Go.Proofs.YtafikkmnkeddpaaGreatDoor
open Go.RowKit Go.Proofs.YtafikkmnkeddpaaGreatDoorW.PrintWords Go.Proofs.YtafikkmnkeddpaaGreatDoorW.PrintLast
def OkI (l : List Int) : Prop := WdI l ∧ l.length ≤ 1000000000
instance (l : List Int) : Decidable (OkI l) := by unfold OkI; infer_instance
def iU (v : Nat) : Prop := (toW v).length ≤ 1024
instance (v : Nat) : Decidable (iU v) := by unfold iU; infer_instance
theorem OkI.sl {w : World} {A : Option Addr} {c : Nat} {l : List Int} (h : OkI l) (hr : Kd.C (Kd.int .u64) w A l.length l) (hc : l.length ≤ c) : Sl w A c (ofI l) := yh hr hc h.1 (by have := h.2; omega)
theorem OkI.wI {v : Nat} (h : (toW v).length ≤ 1000000000) : OkI (wI v) := ⟨KN v, by rw [jC]; exact h⟩
theorem OkI.len {l : List Int} (h : OkI l) : (ofI l).length ≤ 1000000000 := by rw [gG]; exact h.2
structure Tabs (w : World) : Prop where
 tz : D7 w
 rows : jA w
 u8 : Lib.Utf8Tabs 8 9 w
 cs : Lib.CaseVar 7 Lib.caseA w
 p10 : Lib.TabIs Tryz.prog w "internal/strconv.uint64pow10" .u64 Lib.pow10Tab
structure GOk (w : World) : Prop where
 all : ∀ w', RowKit.Below w.heap.size w w' → Tabs w'
theorem GOk.tabs {w : World} (h : GOk w) : Tabs w := h.all w (Below.refl _ _)
theorem GOk.tz {w : World} (h : GOk w) : D7 w := h.tabs.tz
theorem GOk.below {w w' : World} (h : GOk w) (hb : RowKit.Below w.heap.size w w') : GOk w' := ⟨fun v hv => h.all v (hb.trans (hv.mono hb.size))⟩
theorem GOk.drewN {w : World} (h : GOk w) (n : Nat) : GOk (w.drewN n) := h.below (below_drewN (Below.refl _ _) n)
theorem GOk.drew {w : World} (h : GOk w) : GOk w.drew := h.below (Below.drew (Below.refl _ _))
end Go.Proofs.YtafikkmnkeddpaaGreatDoor
namespace Go.Proofs.YtafikkmnkeddpaaGreatDoor.P
open Go.RowKit Go.Proofs.YtafikkmnkeddpaaGreatDoorW.PrintWords Go.Proofs.YtafikkmnkeddpaaGreatDoorW.PrintLast
def jK.f (l0 : List Int) : Option (List Int) := if OkI l0 then some (wI (vI l0)) else none
theorem jK.calls (A0 : Option Addr) (c0 : Nat) (l0 : List Int) (r : List Int) (w : World) (hr0 : Kd.C (Kd.int .u64) w A0 l0.length l0) (hc0 : l0.length ≤ c0) (h : jK.f l0 = some r) :
  Calls Tryz.prog 140 #[.slice A0 l0.length c0] w fun e w' => ∃ v0_ : Value, e = .returned (v0_) ∧ Kd.R (Kd.int .u64) 22 w' w.heap.size (fun _ => True) v0_ r ∧ Below w.heap.size w w' := by
 unfold jK.f at h
 split at h
 ·rename_i hok
  obtain rfl := Option.some.inj h
  have := jK w A0 c0 (ofI l0) (hok.sl hr0 hc0)
  rw [gG] at this
  refine this.mono ?_
  rintro e w' ⟨A, c, rfl, ho, hb⟩
  exact ⟨_, rfl, kV ho (fun _ _ => trivial), hb⟩
 ·cases h
def iy.f (l0 l1 : List Int) : Option Int := if OkI l0 ∧ OkI l1 then some (nX (vI l0) (vI l1)) else none
theorem iy.calls (A0 : Option Addr) (c0 : Nat) (l0 : List Int) (A1 : Option Addr) (c1 : Nat) (l1 : List Int) (r : Int) (w : World) (hr0 : Kd.C (Kd.int .u64) w A0 l0.length l0) (hc0 : l0.length ≤ c0) (hr1 : Kd.C (Kd.int .u64) w A1 l1.length l1) (hc1 : l1.length ≤ c1) (h : iy.f l0 l1 = some r) :
  Calls Tryz.prog 103 #[.slice A0 l0.length c0, .slice A1 l1.length c1] w fun e w' => e = .returned (.int .i64 r) ∧ nG w w' := by
 unfold iy.f at h
 split at h
 ·rename_i hok
  obtain rfl := Option.some.inj h
  have := iy w A0 A1 c0 c1 (ofI l0) (ofI l1) (hok.1.sl hr0 hc0) (hok.2.sl hr1 hc1)
  rw [gG, gG] at this
  refine this.mono ?_
  rintro e w' ⟨rfl, n, rfl⟩
  exact ⟨rfl, ⟨⟨n, rfl⟩⟩⟩
 ·cases h
def iG.f (l0 : List Int) : Option Int := if OkI l0 then some ((dB (vI l0) : Nat) : Int) else none
theorem iG.calls (A0 : Option Addr) (c0 : Nat) (l0 : List Int) (r : Int) (w : World) (hr0 : Kd.C (Kd.int .u64) w A0 l0.length l0) (hc0 : l0.length ≤ c0) (h : iG.f l0 = some r) :
  Calls Tryz.prog 182 #[.slice A0 l0.length c0] w fun e w' => e = .returned (.int .i64 r) ∧ nG w w' := by
 unfold iG.f at h
 split at h
 ·rename_i hok
  obtain rfl := Option.some.inj h
  have := iG w A0 c0 (ofI l0) (hok.sl hr0 hc0) (by have := hok.len; omega)
  rw [gG] at this
  refine this.mono ?_
  rintro e w' ⟨rfl, rfl⟩
  exact ⟨rfl, nG.refl _⟩
 ·cases h
def iJ.f (l0 l1 : List Int) : Option (List Int) := if OkI l0 ∧ OkI l1 then some (wI (vI l0 + vI l1)) else none
theorem iJ.calls (A0 : Option Addr) (c0 : Nat) (l0 : List Int) (A1 : Option Addr) (c1 : Nat) (l1 : List Int) (r : List Int) (w : World) (hr0 : Kd.C (Kd.int .u64) w A0 l0.length l0) (hc0 : l0.length ≤ c0) (hr1 : Kd.C (Kd.int .u64) w A1 l1.length l1) (hc1 : l1.length ≤ c1) (h : iJ.f l0 l1 = some r) :
  Calls Tryz.prog 104 #[.slice A0 l0.length c0, .slice A1 l1.length c1] w fun e w' => ∃ v0_ : Value, e = .returned (v0_) ∧ Kd.R (Kd.int .u64) 22 w' w.heap.size (fun _ => True) v0_ r ∧ Below w.heap.size w w' := by
 unfold iJ.f at h
 split at h
 ·rename_i hok
  obtain rfl := Option.some.inj h
  have h1 := hok.1.len
  have h2 := hok.2.len
  have := iJ w A0 A1 c0 c1 (ofI l0) (ofI l1) (hok.1.sl hr0 hc0) (hok.2.sl hr1 hc1) (by omega) (by omega)
  rw [gG, gG] at this
  refine this.mono ?_
  rintro e w' ⟨A, c, rfl, ho, hb⟩
  exact ⟨_, rfl, kV ho (fun _ _ => trivial), hb⟩
 ·cases h
def kD.f (l0 l1 : List Int) : Option (List Int × Int) := if OkI l0 ∧ OkI l1 then (if vI l0 < vI l1 then some ([], 20) else some (wI (vI l0 - vI l1), 0)) else none
theorem kD.calls (A0 : Option Addr) (c0 : Nat) (l0 : List Int) (A1 : Option Addr) (c1 : Nat) (l1 : List Int) (r1 : List Int) (r2 : Int) (w : World) (hr0 : Kd.C (Kd.int .u64) w A0 l0.length l0) (hc0 : l0.length ≤ c0) (hr1 : Kd.C (Kd.int .u64) w A1 l1.length l1) (hc1 : l1.length ≤ c1) (h : kD.f l0 l1 = some (r1, r2)) :
  Calls Tryz.prog 160 #[.slice A0 l0.length c0, .slice A1 l1.length c1] w fun e w' => ∃ v0_ : Value, e = .returned (.tuple #[v0_, .int .i64 r2]) ∧ Kd.R (Kd.int .u64) 22 w' w.heap.size (fun _ => True) v0_ r1 ∧ Below w.heap.size w w' := by
 unfold kD.f at h
 split at h
 ·rename_i hok
  split at h
  ·rename_i hlt
   simp only [Option.some.injEq, Prod.mk.injEq] at h
   obtain ⟨rfl, rfl⟩ := h
   have := D5 w A0 A1 c0 c1 (ofI l0) (ofI l1) (hok.1.sl hr0 hc0) (hok.2.sl hr1 hc1) hlt
   rw [gG, gG] at this
   refine this.mono ?_
   rintro e w' ⟨rfl, hb⟩
   exact ⟨_, rfl, Kd.EJ _ _ _ _ _, hb⟩
  ·rename_i hge
   simp only [Option.some.injEq, Prod.mk.injEq] at h
   obtain ⟨rfl, rfl⟩ := h
   have := kD w A0 A1 c0 c1 (ofI l0) (ofI l1) (hok.1.sl hr0 hc0) (hok.2.sl hr1 hc1) (Nat.le_of_not_lt hge)
   rw [gG, gG] at this
   refine this.mono ?_
   rintro e w' ⟨A, c, rfl, ho, hb⟩
   exact ⟨_, rfl, kV ho (fun _ _ => trivial), hb⟩
 ·cases h
def gY.f (l0 l1 : List Int) : Option (List Int × Int) := if (OkI l0 ∧ OkI l1) ∧ iU (vI l0) ∧ iU (vI l1) ∧ iU (vI l0 * vI l1) then some (wI (vI l0 * vI l1), 0) else none
theorem gY.calls (A0 : Option Addr) (c0 : Nat) (l0 : List Int) (A1 : Option Addr) (c1 : Nat) (l1 : List Int) (r1 : List Int) (r2 : Int) (w : World) (hr0 : Kd.C (Kd.int .u64) w A0 l0.length l0) (hc0 : l0.length ≤ c0) (hr1 : Kd.C (Kd.int .u64) w A1 l1.length l1) (hc1 : l1.length ≤ c1) (h : gY.f l0 l1 = some (r1, r2)) :
  Calls Tryz.prog 61 #[.slice A0 l0.length c0, .slice A1 l1.length c1] w fun e w' => ∃ v0_ : Value, e = .returned (.tuple #[v0_, .int .i64 r2]) ∧ Kd.R (Kd.int .u64) 22 w' w.heap.size (fun _ => True) v0_ r1 ∧ Below w.heap.size w w' := by
 unfold gY.f at h
 split at h
 ·rename_i hok
  obtain ⟨⟨ho0, ho1⟩, hf⟩ := hok
  simp only [Option.some.injEq, Prod.mk.injEq] at h
  obtain ⟨rfl, rfl⟩ := h
  have h1 := ho0.len
  have h2 := ho1.len
  have := gY w A0 A1 c0 c1 (ofI l0) (ofI l1) (ho0.sl hr0 hc0) (ho1.sl hr1 hc1) (by omega) (by omega) hf.1 hf.2.1 hf.2.2
  rw [gG, gG] at this
  refine this.mono ?_
  rintro e w' ⟨A, c, rfl, ho, hb⟩
  exact ⟨_, rfl, kV ho (fun _ _ => trivial), hb⟩
 ·cases h
def fA.f (l0 : List Int) (a1 : Int) : Option (List Int × Int) := if OkI l0 ∧ 0 ≤ a1 ∧ a1 ≤ 65536 ∧ iU (vI l0) ∧ iU (vI l0 * 2 ^ a1.toNat) then some (wI (vI l0 * 2 ^ a1.toNat), 0) else none
theorem fA.calls (A0 : Option Addr) (c0 : Nat) (l0 : List Int) (a1 : Int) (r1 : List Int) (r2 : Int) (w : World) (hr0 : Kd.C (Kd.int .u64) w A0 l0.length l0) (hc0 : l0.length ≤ c0) (h : fA.f l0 a1 = some (r1, r2)) :
  Calls Tryz.prog 89 #[.slice A0 l0.length c0, .int .i64 a1] w fun e w' => ∃ v0_ : Value, e = .returned (.tuple #[v0_, .int .i64 r2]) ∧ Kd.R (Kd.int .u64) 22 w' w.heap.size (fun _ => True) v0_ r1 ∧ Below w.heap.size w w' := by
 unfold fA.f at h
 split at h
 ·rename_i hok
  obtain ⟨ho0, hn0, hn1, hf⟩ := hok
  simp only [Option.some.injEq, Prod.mk.injEq] at h
  obtain ⟨rfl, rfl⟩ := h
  obtain ⟨n, rfl⟩ := Int.eq_ofNat_of_zero_le hn0
  have h1 := ho0.len
  have := fA w A0 c0 (ofI l0) (ho0.sl hr0 hc0) n (by omega) (by omega) hf.1 hf.2
  rw [gG] at this
  refine this.mono ?_
  rintro e w' ⟨A, c, rfl, ho, hb⟩
  exact ⟨_, rfl, kV ho (fun _ _ => trivial), hb⟩
 ·cases h
def lu.f (l0 : List Int) (a1 : Int) : Option (List Int × Int) := if OkI l0 ∧ 0 ≤ a1 ∧ a1 ≤ 100000000000000 then some (wI (vI l0 / 2 ^ a1.toNat), 0) else none
theorem lu.calls (A0 : Option Addr) (c0 : Nat) (l0 : List Int) (a1 : Int) (r1 : List Int) (r2 : Int) (w : World) (hr0 : Kd.C (Kd.int .u64) w A0 l0.length l0) (hc0 : l0.length ≤ c0) (h : lu.f l0 a1 = some (r1, r2)) :
  Calls Tryz.prog 250 #[.slice A0 l0.length c0, .int .i64 a1] w fun e w' => ∃ v0_ : Value, e = .returned (.tuple #[v0_, .int .i64 r2]) ∧ Kd.R (Kd.int .u64) 22 w' w.heap.size (fun _ => True) v0_ r1 ∧ Below w.heap.size w w' := by
 unfold lu.f at h
 split at h
 ·rename_i hok
  obtain ⟨ho0, hn0, hn1⟩ := hok
  simp only [Option.some.injEq, Prod.mk.injEq] at h
  obtain ⟨rfl, rfl⟩ := h
  obtain ⟨n, rfl⟩ := Int.eq_ofNat_of_zero_le hn0
  have h1 := ho0.len
  have := lu w A0 c0 (ofI l0) (ho0.sl hr0 hc0) n (by omega) (by omega)
  rw [gG] at this
  refine this.mono ?_
  rintro e w' ⟨A, c, rfl, ho, hb⟩
  exact ⟨_, rfl, kV ho (fun _ _ => trivial), hb⟩
 ·cases h
def lg.f (l0 : List Int) (a1 : Int) : Option (List Int × Int) := if OkI l0 ∧ 0 ≤ a1 ∧ a1 ≤ 100000000000000 then some (wI (wM (vI l0) a1.toNat), 0) else none
theorem lg.calls (A0 : Option Addr) (c0 : Nat) (l0 : List Int) (a1 : Int) (r1 : List Int) (r2 : Int) (w : World) (hG : GOk w) (hr0 : Kd.C (Kd.int .u64) w A0 l0.length l0) (hc0 : l0.length ≤ c0) (h : lg.f l0 a1 = some (r1, r2)) :
  Calls Tryz.prog 249 #[.slice A0 l0.length c0, .int .i64 a1] w fun e w' => ∃ v0_ : Value, e = .returned (.tuple #[v0_, .int .i64 r2]) ∧ Kd.R (Kd.int .u64) 22 w' w.heap.size (fun _ => True) v0_ r1 ∧ Below w.heap.size w w' := by
 unfold lg.f at h
 split at h
 ·rename_i hok
  obtain ⟨ho0, hn0, hn1⟩ := hok
  simp only [Option.some.injEq, Prod.mk.injEq] at h
  obtain ⟨rfl, rfl⟩ := h
  obtain ⟨n, rfl⟩ := Int.eq_ofNat_of_zero_le hn0
  have h1 := ho0.len
  have := lg w hG.tz A0 c0 (ofI l0) (ho0.sl hr0 hc0) n (by omega) (by omega)
  rw [gG] at this
  refine this.mono ?_
  rintro e w' ⟨A, c, rfl, ho, hb⟩
  exact ⟨_, rfl, kV ho (fun _ _ => trivial), hb⟩
 ·cases h
def iq.f (l0 l1 : List Int) : Option (List Int × List Int × Int) := if (OkI l0 ∧ OkI l1) ∧ iU (vI l0) ∧ iU (vI l1) ∧ vI l1 ≠ 0 then some (wI (vI l0 / vI l1), wI (vI l0 % vI l1), 0) else none
theorem iq.calls (A0 : Option Addr) (c0 : Nat) (l0 : List Int) (A1 : Option Addr) (c1 : Nat) (l1 : List Int) (r1 r2 : List Int) (r3 : Int) (w : World) (hr0 : Kd.C (Kd.int .u64) w A0 l0.length l0) (hc0 : l0.length ≤ c0) (hr1 : Kd.C (Kd.int .u64) w A1 l1.length l1) (hc1 : l1.length ≤ c1) (h : iq.f l0 l1 = some (r1, r2, r3)) :
  Calls Tryz.prog 101 #[.slice A0 l0.length c0, .slice A1 l1.length c1] w fun e w' => ∃ v0_ v1_ : Value, e = .returned (.tuple #[v0_, v1_, .int .i64 r3]) ∧ Kd.R (Kd.int .u64) 22 w' w.heap.size (fun k_ => some k_ ≠ (v1_ : Value).ownBlock) v0_ r1 ∧ Kd.R (Kd.int .u64) 22 w' w.heap.size (fun k_ => some k_ ≠ (v0_ : Value).ownBlock) v1_ r2 ∧ Below w.heap.size w w' := by
 unfold iq.f at h
 split at h
 ·rename_i hok
  obtain ⟨⟨ho0, ho1⟩, hf0, hf1, h0⟩ := hok
  simp only [Option.some.injEq, Prod.mk.injEq] at h
  obtain ⟨rfl, rfl, rfl⟩ := h
  have := iq w A0 A1 c0 c1 (ofI l0) (ofI l1) (ho0.sl hr0 hc0) (ho1.sl hr1 hc1) h0 ho0.len ho1.len hf0 hf1
  rw [gG, gG] at this
  refine this.mono ?_
  rintro e w' ⟨A, c, A', c', rfl, ho, ho', hb, hap⟩
  refine ⟨_, _, rfl, Bg ho fun k h1 h2 => ?_, Bg ho' fun k h1 h2 => ?_, hb⟩
  ·cases A <;> cases A' <;> simp [Value.ownBlock] at h1 h2
   exact hap _ _ rfl rfl (h1.trans h2)
  ·cases A <;> cases A' <;> simp [Value.ownBlock] at h1 h2
   exact hap _ _ rfl rfl (h2.symm.trans h1.symm)
 ·cases h
def gB.f (a0 a1 : Int) : Option (List Int × Int) := if 2 ≤ a0 ∧ a0 < 18446744073709551616 ∧ 0 ≤ a1 ∧ a1 ≤ 20000 ∧ iU (a0.toNat ^ a1.toNat) then some (wI (a0.toNat ^ a1.toNat), 0) else none
theorem gB.calls (a0 a1 : Int) (r1 : List Int) (r2 : Int) (w : World) (h : gB.f a0 a1 = some (r1, r2)) :
  Calls Tryz.prog 91 #[.int .u64 a0, .int .i64 a1] w fun e w' => ∃ v0_ : Value, e = .returned (.tuple #[v0_, .int .i64 r2]) ∧ Kd.R (Kd.int .u64) 22 w' w.heap.size (fun _ => True) v0_ r1 ∧ Below w.heap.size w w' := by
 unfold gB.f at h
 split at h
 ·rename_i hok
  obtain ⟨h0, h1, h2, h3, hf⟩ := hok
  simp only [Option.some.injEq, Prod.mk.injEq] at h
  obtain ⟨rfl, rfl⟩ := h
  obtain ⟨n, rfl⟩ := Int.eq_ofNat_of_zero_le h2
  obtain ⟨b, rfl⟩ := Int.eq_ofNat_of_zero_le (show 0 ≤ a0 by omega)
  refine (gB w b n (by omega) (by show b < 18446744073709551616; omega) (by omega) hf).mono ?_
  rintro e w' ⟨A, c, rfl, ho, hb⟩
  exact ⟨_, rfl, kV ho (fun _ _ => trivial), hb⟩
 ·cases h
def CQ (s : ByteArray) : Prop := 0 < s.size ∧ s.size ≤ 20000 ∧ n_ s.data.toList ∧ iU (dn s.data.toList)
instance (s : ByteArray) : Decidable (CQ s) := by unfold CQ n_; infer_instance
def jH.f (a0 : ByteArray) : Option (List Int × Int) := if CQ a0 then some (wI (dn a0.data.toList), 0) else none
theorem jH.calls (a0 : ByteArray) (r1 : List Int) (r2 : Int) (w : World) (h : jH.f a0 = some (r1, r2)) :
  Calls Tryz.prog 37 #[.string a0] w fun e w' => ∃ v0_ : Value, e = .returned (.tuple #[v0_, .int .i64 r2]) ∧ Kd.R (Kd.int .u64) 22 w' w.heap.size (fun _ => True) v0_ r1 ∧ Below w.heap.size w w' := by
 unfold jH.f at h
 split at h
 ·rename_i hok
  obtain ⟨h0, h1, h2, hf⟩ := hok
  simp only [Option.some.injEq, Prod.mk.injEq] at h
  obtain ⟨rfl, rfl⟩ := h
  refine (jH w a0 h0 h1 h2 hf).mono ?_
  rintro e w' ⟨A, c, rfl, ho, hb⟩
  exact ⟨_, rfl, kV ho (fun _ _ => trivial), hb⟩
 ·cases h
end Go.Proofs.YtafikkmnkeddpaaGreatDoor.P
namespace Go.Proofs.YtafikkmnkeddpaaGreatDoor
open Go.RowKit Go.Sort
set_option maxRecDepth 10000 in
set_option maxHeartbeats 1000000 in
theorem Ai (w : World) (f : Int) (neg : Bool) (P Q m x o l v r : Int)
  (hP : ∀ W, jA W → Calls Tryz.prog 52 #[.int .i64 f] W fun e w' => e = .returned (.tuple #[.agg #[.int .i64 P, .int .i64 Q, .int .i64 m, .int .i64 x], .int .i64 0]) ∧ Below W.heap.size W w')
  (hw : IntKind.i64.wrap (P - Q) = P - Q) (hwu : IntKind.u64.wrap (o - l) = o - l)
  (hO : ∀ W, Calls Tryz.prog 188 #[.int .i64 (P - Q)] W fun e w' => e = .returned (.int .u64 o) ∧ Below W.heap.size W w')
  (hL : ∀ W, Calls Tryz.prog 136 #[.agg #[.int .i64 P, .int .i64 Q, .int .i64 m, .int .i64 x]] W fun e w' => e = .returned (.int .u64 l) ∧ Below W.heap.size W w')
  (hR : ∀ W, Calls Tryz.prog 137 #[.agg #[.int .i64 P, .int .i64 Q, .int .i64 m, .int .i64 x]] W fun e w' => e = .returned (.int .u64 v) ∧ Below W.heap.size W w')
  (hJ : ∀ W, Calls Tryz.prog 210 #[.agg #[.int .i64 P, .int .i64 Q, .int .i64 m, .int .i64 x], .bool neg, .int .u64 (o - l), .int .u64 v] W fun e w' => e = .returned (.int .u64 r) ∧ Below W.heap.size W w')
  (hrow : jA w) :
  Calls Tryz.prog 135 #[.int .i64 f, .bool neg, .func (.func 136) #[] #[], .func (.func 137) #[] #[]] w fun e w' => e = .returned (.tuple #[.int .u64 r, .int .i64 0]) ∧ Below w.heap.size w w' := by
 have hA := hP w hrow
 have hO2 : ∀ W dz os, Calls Tryz.prog 188 #[.int .i64 (P - Q)] (grow (redrawn W dz) os) fun e1 w'' => e1 = .returned (.int .u64 o) ∧ ∃ p : Regrown, w'' = grow (redrawn W p.d) p.os := fun W dz os => Calls.regrown_of (hO _)
 have hL2 : ∀ W dz os, Calls Tryz.prog 136 #[.agg #[.int .i64 P, .int .i64 Q, .int .i64 m, .int .i64 x]] (grow (redrawn W dz) os) fun e1 w'' => e1 = .returned (.int .u64 l) ∧ ∃ p : Regrown, w'' = grow (redrawn W p.d) p.os := fun W dz os => Calls.regrown_of (hL _)
 have hR2 : ∀ W dz os, Calls Tryz.prog 137 #[.agg #[.int .i64 P, .int .i64 Q, .int .i64 m, .int .i64 x]] (grow (redrawn W dz) os) fun e1 w'' => e1 = .returned (.int .u64 v) ∧ ∃ p : Regrown, w'' = grow (redrawn W p.d) p.os := fun W dz os => Calls.regrown_of (hR _)
 have hJ2 : ∀ W dz os, Calls Tryz.prog 210 #[.agg #[.int .i64 P, .int .i64 Q, .int .i64 m, .int .i64 x], .bool neg, .int .u64 (o - l), .int .u64 v] (grow (redrawn W dz) os) fun e1 w'' => e1 = .returned (.int .u64 r) ∧ ∃ p : Regrown, w'' = grow (redrawn W p.d) p.os := fun W dz os => Calls.regrown_of (hJ _)
 have HH := Lib.hid (And.intro hO2 (And.intro hL2 (And.intro hR2 hJ2)))
 clear hP hO hL hR hJ hO2 hL2 hR2 hJ2 hrow
 go_enter Tryz.func135, Tryz.ntmps135
 go_upto_region 4 with (go_at_call 52; refine hA.mono ?_; rintro e1 w1 ⟨rfl, hb1⟩)
 have hal := heap_alloc_new w1 (.cells #[.int .i64 P, .int .i64 Q, .int .i64 m, .int .i64 x] 88)
 have hbW : RowKit.Below w.heap.size w (w1.alloc (.cells #[.int .i64 P, .int .i64 Q, .int .i64 m, .int .i64 x] 88)) := hb1.alloc hb1.size _
 generalize w1.alloc (.cells #[.int .i64 P, .int .i64 Q, .int .i64 m, .int .i64 x] 88) = W at *
 generalize w1.heap.size = g at *
 have k0 : W.cell? ⟨g, 0, none⟩ = some (.int .i64 P) := by simp [World.cell?, hal]
 have k1 : W.cell? ⟨g, 1, none⟩ = some (.int .i64 Q) := by simp [World.cell?, hal]
 have k2 : W.cell? ⟨g, 2, none⟩ = some (.int .i64 m) := by simp [World.cell?, hal]
 have k3 : W.cell? ⟨g, 3, none⟩ = some (.int .i64 x) := by simp [World.cell?, hal]
 have q0 := cell_regrown k0
 have q1 := cell_regrown k1
 have q2 := cell_regrown k2
 have q3 := cell_regrown k3
 have HB := Lib.hid hbW
 clear hal hbW k0 k1 k2 k3 hb1 hA
 refine wp_region_quiet_below (by kernel_rfl) (by kernel_rfl) ?_
 repeat (quiet_step (first | exact HH.out.1 _ _ _ | exact HH.out.2.1 _ _ _ | exact HH.out.2.2.1 _ _ _ | exact HH.out.2.2.2 _ _ _))
 refine wpQuiet_nil ?_
 rintro _ ⟨⟨dq, osq⟩, rfl⟩
 have hb2 := below_regrown W dq osq
 have HB2 := Lib.hid hb2
 clear hb2 q0 q1 q2 q3
 go_wp2
 go_ret2
 exact ⟨rfl, HB.out.trans (HB2.out.mono HB.out.size)⟩
set_option maxRecDepth 10000 in
set_option maxHeartbeats 1000000 in
theorem Aj (w : World) (f : Int) (neg : Bool) (P Q m x o l r : Int)
  (hP : ∀ W, jA W → Calls Tryz.prog 52 #[.int .i64 f] W fun e w' => e = .returned (.tuple #[.agg #[.int .i64 P, .int .i64 Q, .int .i64 m, .int .i64 x], .int .i64 0]) ∧ Below W.heap.size W w')
  (hw : IntKind.i64.wrap (P - Q) = P - Q) (hwu : IntKind.u64.wrap (o - l) = o - l)
  (hO : ∀ W, Calls Tryz.prog 188 #[.int .i64 (P - Q)] W fun e w' => e = .returned (.int .u64 o) ∧ Below W.heap.size W w')
  (hL : ∀ W, Calls Tryz.prog 136 #[.agg #[.int .i64 P, .int .i64 Q, .int .i64 m, .int .i64 x]] W fun e w' => e = .returned (.int .u64 l) ∧ Below W.heap.size W w')
  (hR : ∀ W, Calls Tryz.prog 136 #[.agg #[.int .i64 P, .int .i64 Q, .int .i64 m, .int .i64 x]] W fun e w' => e = .returned (.int .u64 l) ∧ Below W.heap.size W w')
  (hJ : ∀ W, Calls Tryz.prog 210 #[.agg #[.int .i64 P, .int .i64 Q, .int .i64 m, .int .i64 x], .bool neg, .int .u64 (o - l), .int .u64 l] W fun e w' => e = .returned (.int .u64 r) ∧ Below W.heap.size W w')
  (hrow : jA w) :
  Calls Tryz.prog 135 #[.int .i64 f, .bool neg, .func (.func 136) #[] #[], .func (.func 136) #[] #[]] w fun e w' => e = .returned (.tuple #[.int .u64 r, .int .i64 0]) ∧ Below w.heap.size w w' := by
 have hA := hP w hrow
 have hO2 : ∀ W dz os, Calls Tryz.prog 188 #[.int .i64 (P - Q)] (grow (redrawn W dz) os) fun e1 w'' => e1 = .returned (.int .u64 o) ∧ ∃ p : Regrown, w'' = grow (redrawn W p.d) p.os := fun W dz os => Calls.regrown_of (hO _)
 have hL2 : ∀ W dz os, Calls Tryz.prog 136 #[.agg #[.int .i64 P, .int .i64 Q, .int .i64 m, .int .i64 x]] (grow (redrawn W dz) os) fun e1 w'' => e1 = .returned (.int .u64 l) ∧ ∃ p : Regrown, w'' = grow (redrawn W p.d) p.os := fun W dz os => Calls.regrown_of (hL _)
 have hR2 : ∀ W dz os, Calls Tryz.prog 136 #[.agg #[.int .i64 P, .int .i64 Q, .int .i64 m, .int .i64 x]] (grow (redrawn W dz) os) fun e1 w'' => e1 = .returned (.int .u64 l) ∧ ∃ p : Regrown, w'' = grow (redrawn W p.d) p.os := fun W dz os => Calls.regrown_of (hR _)
 have hJ2 : ∀ W dz os, Calls Tryz.prog 210 #[.agg #[.int .i64 P, .int .i64 Q, .int .i64 m, .int .i64 x], .bool neg, .int .u64 (o - l), .int .u64 l] (grow (redrawn W dz) os) fun e1 w'' => e1 = .returned (.int .u64 r) ∧ ∃ p : Regrown, w'' = grow (redrawn W p.d) p.os := fun W dz os => Calls.regrown_of (hJ _)
 have HH := Lib.hid (And.intro hO2 (And.intro hL2 (And.intro hR2 hJ2)))
 clear hP hO hL hR hJ hO2 hL2 hR2 hJ2 hrow
 go_enter Tryz.func135, Tryz.ntmps135
 go_upto_region 4 with (go_at_call 52; refine hA.mono ?_; rintro e1 w1 ⟨rfl, hb1⟩)
 have hal := heap_alloc_new w1 (.cells #[.int .i64 P, .int .i64 Q, .int .i64 m, .int .i64 x] 88)
 have hbW : RowKit.Below w.heap.size w (w1.alloc (.cells #[.int .i64 P, .int .i64 Q, .int .i64 m, .int .i64 x] 88)) := hb1.alloc hb1.size _
 generalize w1.alloc (.cells #[.int .i64 P, .int .i64 Q, .int .i64 m, .int .i64 x] 88) = W at *
 generalize w1.heap.size = g at *
 have k0 : W.cell? ⟨g, 0, none⟩ = some (.int .i64 P) := by simp [World.cell?, hal]
 have k1 : W.cell? ⟨g, 1, none⟩ = some (.int .i64 Q) := by simp [World.cell?, hal]
 have k2 : W.cell? ⟨g, 2, none⟩ = some (.int .i64 m) := by simp [World.cell?, hal]
 have k3 : W.cell? ⟨g, 3, none⟩ = some (.int .i64 x) := by simp [World.cell?, hal]
 have q0 := cell_regrown k0
 have q1 := cell_regrown k1
 have q2 := cell_regrown k2
 have q3 := cell_regrown k3
 have HB := Lib.hid hbW
 clear hal hbW k0 k1 k2 k3 hb1 hA
 refine wp_region_quiet_below (by kernel_rfl) (by kernel_rfl) ?_
 repeat (quiet_step (first | exact HH.out.1 _ _ _ | exact HH.out.2.1 _ _ _ | exact HH.out.2.2.1 _ _ _ | exact HH.out.2.2.2 _ _ _))
 refine wpQuiet_nil ?_
 rintro _ ⟨⟨dq, osq⟩, rfl⟩
 have hb2 := below_regrown W dq osq
 have HB2 := Lib.hid hb2
 clear hb2 q0 q1 q2 q3
 go_wp2
 go_ret2
 exact ⟨rfl, HB.out.trans (HB2.out.mono HB.out.size)⟩
set_option maxRecDepth 10000 in
set_option maxHeartbeats 1000000 in
theorem Ak (w : World) (f : Int) (neg : Bool) (P Q m x o l v r : Int)
  (hP : ∀ W, jA W → Calls Tryz.prog 52 #[.int .i64 f] W fun e w' => e = .returned (.tuple #[.agg #[.int .i64 P, .int .i64 Q, .int .i64 m, .int .i64 x], .int .i64 0]) ∧ Below W.heap.size W w')
  (hw : IntKind.i64.wrap (P - Q) = P - Q) (hwu : IntKind.u64.wrap (o - l) = o - l)
  (hO : ∀ W, Calls Tryz.prog 188 #[.int .i64 (P - Q)] W fun e w' => e = .returned (.int .u64 o) ∧ Below W.heap.size W w')
  (hL : ∀ W, Calls Tryz.prog 138 #[.agg #[.int .i64 P, .int .i64 Q, .int .i64 m, .int .i64 x]] W fun e w' => e = .returned (.int .u64 l) ∧ Below W.heap.size W w')
  (hR : ∀ W, Calls Tryz.prog 136 #[.agg #[.int .i64 P, .int .i64 Q, .int .i64 m, .int .i64 x]] W fun e w' => e = .returned (.int .u64 v) ∧ Below W.heap.size W w')
  (hJ : ∀ W, Calls Tryz.prog 210 #[.agg #[.int .i64 P, .int .i64 Q, .int .i64 m, .int .i64 x], .bool neg, .int .u64 (o - l), .int .u64 v] W fun e w' => e = .returned (.int .u64 r) ∧ Below W.heap.size W w')
  (hrow : jA w) :
  Calls Tryz.prog 135 #[.int .i64 f, .bool neg, .func (.func 138) #[] #[], .func (.func 136) #[] #[]] w fun e w' => e = .returned (.tuple #[.int .u64 r, .int .i64 0]) ∧ Below w.heap.size w w' := by
 have hA := hP w hrow
 have hO2 : ∀ W dz os, Calls Tryz.prog 188 #[.int .i64 (P - Q)] (grow (redrawn W dz) os) fun e1 w'' => e1 = .returned (.int .u64 o) ∧ ∃ p : Regrown, w'' = grow (redrawn W p.d) p.os := fun W dz os => Calls.regrown_of (hO _)
 have hL2 : ∀ W dz os, Calls Tryz.prog 138 #[.agg #[.int .i64 P, .int .i64 Q, .int .i64 m, .int .i64 x]] (grow (redrawn W dz) os) fun e1 w'' => e1 = .returned (.int .u64 l) ∧ ∃ p : Regrown, w'' = grow (redrawn W p.d) p.os := fun W dz os => Calls.regrown_of (hL _)
 have hR2 : ∀ W dz os, Calls Tryz.prog 136 #[.agg #[.int .i64 P, .int .i64 Q, .int .i64 m, .int .i64 x]] (grow (redrawn W dz) os) fun e1 w'' => e1 = .returned (.int .u64 v) ∧ ∃ p : Regrown, w'' = grow (redrawn W p.d) p.os := fun W dz os => Calls.regrown_of (hR _)
 have hJ2 : ∀ W dz os, Calls Tryz.prog 210 #[.agg #[.int .i64 P, .int .i64 Q, .int .i64 m, .int .i64 x], .bool neg, .int .u64 (o - l), .int .u64 v] (grow (redrawn W dz) os) fun e1 w'' => e1 = .returned (.int .u64 r) ∧ ∃ p : Regrown, w'' = grow (redrawn W p.d) p.os := fun W dz os => Calls.regrown_of (hJ _)
 have HH := Lib.hid (And.intro hO2 (And.intro hL2 (And.intro hR2 hJ2)))
 clear hP hO hL hR hJ hO2 hL2 hR2 hJ2 hrow
 go_enter Tryz.func135, Tryz.ntmps135
 go_upto_region 4 with (go_at_call 52; refine hA.mono ?_; rintro e1 w1 ⟨rfl, hb1⟩)
 have hal := heap_alloc_new w1 (.cells #[.int .i64 P, .int .i64 Q, .int .i64 m, .int .i64 x] 88)
 have hbW : RowKit.Below w.heap.size w (w1.alloc (.cells #[.int .i64 P, .int .i64 Q, .int .i64 m, .int .i64 x] 88)) := hb1.alloc hb1.size _
 generalize w1.alloc (.cells #[.int .i64 P, .int .i64 Q, .int .i64 m, .int .i64 x] 88) = W at *
 generalize w1.heap.size = g at *
 have k0 : W.cell? ⟨g, 0, none⟩ = some (.int .i64 P) := by simp [World.cell?, hal]
 have k1 : W.cell? ⟨g, 1, none⟩ = some (.int .i64 Q) := by simp [World.cell?, hal]
 have k2 : W.cell? ⟨g, 2, none⟩ = some (.int .i64 m) := by simp [World.cell?, hal]
 have k3 : W.cell? ⟨g, 3, none⟩ = some (.int .i64 x) := by simp [World.cell?, hal]
 have q0 := cell_regrown k0
 have q1 := cell_regrown k1
 have q2 := cell_regrown k2
 have q3 := cell_regrown k3
 have HB := Lib.hid hbW
 clear hal hbW k0 k1 k2 k3 hb1 hA
 refine wp_region_quiet_below (by kernel_rfl) (by kernel_rfl) ?_
 repeat (quiet_step (first | exact HH.out.1 _ _ _ | exact HH.out.2.1 _ _ _ | exact HH.out.2.2.1 _ _ _ | exact HH.out.2.2.2 _ _ _))
 refine wpQuiet_nil ?_
 rintro _ ⟨⟨dq, osq⟩, rfl⟩
 have hb2 := below_regrown W dq osq
 have HB2 := Lib.hid hb2
 clear hb2 q0 q1 q2 q3
 go_wp2
 go_ret2
 exact ⟨rfl, HB.out.trans (HB2.out.mono HB.out.size)⟩
set_option maxRecDepth 10000 in
set_option maxHeartbeats 1000000 in
theorem Aq (w : World) (f : Int) (neg : Bool) (P Q m x o l v r : Int)
  (hP : ∀ W, jA W → Calls Tryz.prog 52 #[.int .i64 f] W fun e w' => e = .returned (.tuple #[.agg #[.int .i64 P, .int .i64 Q, .int .i64 m, .int .i64 x], .int .i64 0]) ∧ Below W.heap.size W w')
  (hw : IntKind.i64.wrap (P - Q) = P - Q) (hwu : IntKind.u64.wrap (o - l) = o - l)
  (hO : ∀ W, Calls Tryz.prog 188 #[.int .i64 (P - Q)] W fun e w' => e = .returned (.int .u64 o) ∧ Below W.heap.size W w')
  (hL : ∀ W, Calls Tryz.prog 272 #[.agg #[.int .i64 P, .int .i64 Q, .int .i64 m, .int .i64 x]] W fun e w' => e = .returned (.int .u64 l) ∧ Below W.heap.size W w')
  (hR : ∀ W, Calls Tryz.prog 273 #[.agg #[.int .i64 P, .int .i64 Q, .int .i64 m, .int .i64 x]] W fun e w' => e = .returned (.int .u64 v) ∧ Below W.heap.size W w')
  (hJ : ∀ W, Calls Tryz.prog 210 #[.agg #[.int .i64 P, .int .i64 Q, .int .i64 m, .int .i64 x], .bool neg, .int .u64 (o - l), .int .u64 v] W fun e w' => e = .returned (.int .u64 r) ∧ Below W.heap.size W w')
  (hrow : jA w) :
  Calls Tryz.prog 135 #[.int .i64 f, .bool neg, .func (.func 272) #[] #[], .func (.func 273) #[] #[]] w fun e w' => e = .returned (.tuple #[.int .u64 r, .int .i64 0]) ∧ Below w.heap.size w w' := by
 have hA := hP w hrow
 have hO2 : ∀ W dz os, Calls Tryz.prog 188 #[.int .i64 (P - Q)] (grow (redrawn W dz) os) fun e1 w'' => e1 = .returned (.int .u64 o) ∧ ∃ p : Regrown, w'' = grow (redrawn W p.d) p.os := fun W dz os => Calls.regrown_of (hO _)
 have hL2 : ∀ W dz os, Calls Tryz.prog 272 #[.agg #[.int .i64 P, .int .i64 Q, .int .i64 m, .int .i64 x]] (grow (redrawn W dz) os) fun e1 w'' => e1 = .returned (.int .u64 l) ∧ ∃ p : Regrown, w'' = grow (redrawn W p.d) p.os := fun W dz os => Calls.regrown_of (hL _)
 have hR2 : ∀ W dz os, Calls Tryz.prog 273 #[.agg #[.int .i64 P, .int .i64 Q, .int .i64 m, .int .i64 x]] (grow (redrawn W dz) os) fun e1 w'' => e1 = .returned (.int .u64 v) ∧ ∃ p : Regrown, w'' = grow (redrawn W p.d) p.os := fun W dz os => Calls.regrown_of (hR _)
 have hJ2 : ∀ W dz os, Calls Tryz.prog 210 #[.agg #[.int .i64 P, .int .i64 Q, .int .i64 m, .int .i64 x], .bool neg, .int .u64 (o - l), .int .u64 v] (grow (redrawn W dz) os) fun e1 w'' => e1 = .returned (.int .u64 r) ∧ ∃ p : Regrown, w'' = grow (redrawn W p.d) p.os := fun W dz os => Calls.regrown_of (hJ _)
 have HH := Lib.hid (And.intro hO2 (And.intro hL2 (And.intro hR2 hJ2)))
 clear hP hO hL hR hJ hO2 hL2 hR2 hJ2 hrow
 go_enter Tryz.func135, Tryz.ntmps135
 go_upto_region 4 with (go_at_call 52; refine hA.mono ?_; rintro e1 w1 ⟨rfl, hb1⟩)
 have hal := heap_alloc_new w1 (.cells #[.int .i64 P, .int .i64 Q, .int .i64 m, .int .i64 x] 88)
 have hbW : RowKit.Below w.heap.size w (w1.alloc (.cells #[.int .i64 P, .int .i64 Q, .int .i64 m, .int .i64 x] 88)) := hb1.alloc hb1.size _
 generalize w1.alloc (.cells #[.int .i64 P, .int .i64 Q, .int .i64 m, .int .i64 x] 88) = W at *
 generalize w1.heap.size = g at *
 have k0 : W.cell? ⟨g, 0, none⟩ = some (.int .i64 P) := by simp [World.cell?, hal]
 have k1 : W.cell? ⟨g, 1, none⟩ = some (.int .i64 Q) := by simp [World.cell?, hal]
 have k2 : W.cell? ⟨g, 2, none⟩ = some (.int .i64 m) := by simp [World.cell?, hal]
 have k3 : W.cell? ⟨g, 3, none⟩ = some (.int .i64 x) := by simp [World.cell?, hal]
 have q0 := cell_regrown k0
 have q1 := cell_regrown k1
 have q2 := cell_regrown k2
 have q3 := cell_regrown k3
 have HB := Lib.hid hbW
 clear hal hbW k0 k1 k2 k3 hb1 hA
 refine wp_region_quiet_below (by kernel_rfl) (by kernel_rfl) ?_
 repeat (quiet_step (first | exact HH.out.1 _ _ _ | exact HH.out.2.1 _ _ _ | exact HH.out.2.2.1 _ _ _ | exact HH.out.2.2.2 _ _ _))
 refine wpQuiet_nil ?_
 rintro _ ⟨⟨dq, osq⟩, rfl⟩
 have hb2 := below_regrown W dq osq
 have HB2 := Lib.hid hb2
 clear hb2 q0 q1 q2 q3
 go_wp2
 go_ret2
 exact ⟨rfl, HB.out.trans (HB2.out.mono HB.out.size)⟩
end Go.Proofs.YtafikkmnkeddpaaGreatDoor
set_option maxRecDepth 100000
namespace Go.Proofs.YtafikkmnkeddpaaGreatDoor.V
open Go.RowKit Go.Proofs.YtafikkmnkeddpaaGreatDoorW.PrintWords Go.Proofs.YtafikkmnkeddpaaGreatDoorW.PrintLast Go.Proofs.YtafikkmnkeddpaaGreatDoorW.PrintMore Go.Proofs.Tryz
def iP.f (a : Int) (b : Int) (c : Int) (d : Int) : Option (Int) := if 0 ≤ (wrap64 (b - 2)) then (some (shl .u64 1 (wrap64 (b - 2)))) else (none)
def fK.f (a : Int) (b : Int) (c : Int) (d : Int) : Option (Int) := some 0
def iQ.f (a : Int) (b : Int) (c : Int) (d : Int) : Option (Int) := some 1
def bT.f (a : Int) : Option (Int) := if 0 ≤ a then (some (IntKind.u64.wrap ((shl .u64 1 a) - 1))) else (none)
def iR.f (a : Int) (b : Int) (c : Int) (d : Int) : Option (Int) := (bT.f (wrap64 (a - b))).bind fun e => (some e)
def dV.f (a : Int) (b : Int) (c : Int) (d : Int) : Option (Int) := (bT.f (wrap64 (b - 1))).bind fun e => (some e)
def fE.f (a : Int) (b : Int) (c : Int) (d : Int) (e : Bool) (f : Int) (g : Int) : Option (Int) := if 0 ≤ (wrap64 (b - 1)) then (if e = true then (if 0 ≤ (wrap64 (a - 1)) then (some (Go.bits .or .u64 (Go.bits .or .u64 (shl .u64 f (wrap64 (b - 1))) g) (shl .u64 1 (wrap64 (a - 1))))) else (none)) else (some (Go.bits .or .u64 (shl .u64 f (wrap64 (b - 1))) g))) else (none)
def gy.f (a : Int) (b : Int) (c : Int) (d : Int) (e : Int) : Option (Bool × Int × Int) := if 0 ≤ (wrap64 (a - 1)) then (if 0 ≤ (wrap64 (b - 1)) then ((bT.f (wrap64 (a - b))).bind fun f => ((bT.f (wrap64 (b - 1))).bind fun g => (some (((shr .u64 e (wrap64 (a - 1))) != 0), Go.bits .and .u64 (shr .u64 e (wrap64 (b - 1))) f, Go.bits .and .u64 e g)))) else (none)) else (none)
end Go.Proofs.YtafikkmnkeddpaaGreatDoor.V
namespace Go.Proofs.YtafikkmnkeddpaaGreatDoor.E
open Go.RowKit Go.Proofs.YtafikkmnkeddpaaGreatDoorW.PrintWords Go.Proofs.YtafikkmnkeddpaaGreatDoorW.PrintLast Go.Proofs.YtafikkmnkeddpaaGreatDoorW.PrintMore
inductive AV where
 | v (x : Value)
 | ro (f : Bool) (k : IntKind) (xs : List Int)
 | own (n : Nat)
 | ptr (n off : Nat)
 | ept (n : Nat) (i : Int)
 | rpt (x : Value)
 | top
 | agg (l : List AV)
 | tup (l : List AV)
 | new (e : TypeId) (k : IntKind) (xs : List Int)
inductive Blk where
 | ints (k : IntKind) (e : TypeId) (xs : List Int)
 | cells (l : List AV)
def lk {α : Type} (n : Nat) : List (Nat × α) → Option α
 | [] => none
 | p :: r => match Nat.beq p.1 n with
  | true => some p.2
  | false => lk n r
structure St where
 t : List (Nat × AV)
 h : List (Nat × Blk)
def bk : Value → Option Nat
 | .slice (some a) _ _ => some a.block
 | .pointer (some a) => some a.block
 | _ => none
structure Roo (B : Nat) (w : World) (O : Nat → Prop) (f : Bool) (k : IntKind) (xs : List Int) (A : Option Addr) (cap : Nat) : Prop where
 le : xs.length ≤ cap
 mx : xs.length ≤ 9223372036854775807
 at_ : 0 < xs.length → ∃ b o, A = some ⟨b, o, none⟩ ∧ b < w.heap.size ∧ ¬ O b ∧ (f = true → B ≤ b) ∧ ∀ j, j < xs.length → w.cell? ⟨b, o + j, none⟩ = some (.int k (xs.getD j 0))
mutual
inductive VR (B : Nat) (w : World) (O D : Nat → Prop) (g : Nat → Value) : AV → Value → Prop
 | v (x : Value) : VR B w O D g (.v x) x
 | ro (f : Bool) (k : IntKind) (xs : List Int) (A : Option Addr) (cap : Nat) : Roo B w O f k xs A cap → VR B w O D g (.ro f k xs) (.slice A xs.length cap)
 | own (n : Nat) : D n → VR B w O D g (.own n) (g n)
 | ptr (n off b : Nat) : D n → g n = .pointer (some ⟨b, 0, none⟩) → VR B w O D g (.ptr n off) (.pointer (some ⟨b, off, none⟩))
 | ept (n : Nat) (i : Int) (b l c : Nat) : D n → g n = .slice (some ⟨b, 0, none⟩) l c → i.toNat < l → VR B w O D g (.ept n i) (.pointer (some ⟨b, i.toNat, none⟩))
 | rpt (x : Value) (b o : Nat) : b < w.heap.size → ¬ O b → w.cell? ⟨b, o, none⟩ = some x → VR B w O D g (.rpt x) (.pointer (some ⟨b, o, none⟩))
 | top (x : Value) : VR B w O D g .top x
 | agg (l : List AV) (vs : List Value) : VRs B w O D g l vs → VR B w O D g (.agg l) (.agg ⟨vs⟩)
 | tup (l : List AV) (vs : List Value) : VRs B w O D g l vs → VR B w O D g (.tup l) (.tuple ⟨vs⟩)
 | new (e : TypeId) (k : IntKind) (xs : List Int) (v : Value) : w.ownsRow B e 1 v xs.length (nums k xs) → (∀ b, bk v = some b → ¬ O b) → VR B w O D g (.new e k xs) v
inductive VRs (B : Nat) (w : World) (O D : Nat → Prop) (g : Nat → Value) : List AV → List Value → Prop
 | nil : VRs B w O D g [] []
 | cons (x : AV) (y : Value) (l : List AV) (vs : List Value) : VR B w O D g x y → VRs B w O D g l vs → VRs B w O D g (x :: l) (y :: vs)
end
theorem tY {w w' : World} {b o : Nat} (h : w'.heap[b]? = w.heap[b]?) : w'.cell? ⟨b, o, none⟩ = w.cell? ⟨b, o, none⟩ := by simp [World.cell?, h]
section
variable {B B' : Nat} {w w' : World} {O O' D D' : Nat → Prop} {g g' : Nat → Value}
theorem yK {e : TypeId} {k : IntKind} {xs : List Int} {v : Value} (h : w.ownsRow B e 1 v xs.length (nums k xs)) (hB : B' ≤ B) (hs : ∀ b, bk v = some b → b < w.heap.size → w'.heap[b]? = w.heap[b]?) : w'.ownsRow B' e 1 v xs.length (nums k xs) := by
 refine ⟨h.1, ?_⟩
 rcases h.2 with h | ⟨q, cap, cur, rfl, hb, hh, r⟩
 ·exact .inl h
 ·exact .inr ⟨q, cap, cur, rfl, Nat.le_trans hB hb, by rw [hs q (by simp [bk]) (Array.getElem?_eq_some_iff.1 hh).1]; exact hh, r⟩
theorem yL {e : TypeId} {k : IntKind} {xs : List Int} {v : Value} (h : w.ownsRow B e 1 v xs.length (nums k xs)) {b : Nat} (hb : bk v = some b) : B ≤ b ∧ b < w.heap.size := by
 rcases h.2 with ⟨rfl, _⟩ | ⟨q, cap, cur, rfl, hq, hh, _⟩
 ·simp [bk] at hb
 ·simp [bk] at hb; subst hb; exact ⟨hq, (Array.getElem?_eq_some_iff.1 hh).1⟩
theorem Roo.tr {f : Bool} {k : IntKind} {xs : List Int} {A : Option Addr} {cap : Nat} (h : Roo B w O f k xs A cap) (h1 : w.heap.size ≤ w'.heap.size) (h2 : ∀ b, b < w.heap.size → ¬ O b → ¬ O' b ∧ w'.heap[b]? = w.heap[b]?) (hB : B' ≤ B) : Roo B' w' O' f k xs A cap :=
 ⟨h.le, h.mx, fun hp => by
  obtain ⟨b, o, rfl, hb, ho, hf, hc⟩ := h.at_ hp
  obtain ⟨k1, k2⟩ := h2 b hb ho
  exact ⟨b, o, rfl, by omega, k1, fun e => Nat.le_trans hB (hf e), fun j hj => by rw [tY k2]; exact hc j hj⟩⟩
mutual
theorem VR.tr {x : AV} {y : Value} (h : VR B w O D g x y) (h1 : w.heap.size ≤ w'.heap.size) (h2 : ∀ b, b < w.heap.size → ¬ O b → ¬ O' b ∧ w'.heap[b]? = w.heap[b]?) (h3 : ∀ n, D n → D' n ∧ g' n = g n) (hB : B' ≤ B) : VR B' w' O' D' g' x y := by
 cases h with
 | v => exact .v _
 | ro f k xs A cap hr => exact .ro _ _ _ _ _ (hr.tr h1 h2 hB)
 | own n hd => rw [← (h3 n hd).2]; exact .own _ (h3 n hd).1
 | ptr n off b hd hg => exact .ptr _ _ _ (h3 n hd).1 (by rw [(h3 n hd).2]; exact hg)
 | ept n i b l c hd hg hl => exact .ept _ _ _ l c (h3 n hd).1 (by rw [(h3 n hd).2]; exact hg) hl
 | rpt x b o hb ho hc => exact .rpt _ _ _ (by omega) (h2 b hb ho).1 (by rw [tY (h2 b hb ho).2]; exact hc)
 | top => exact .top _
 | new e k xs v hr ho => exact .new _ _ _ _ (yK hr hB (fun b hb hl => (h2 b hl (ho b hb)).2)) (fun b hb => (h2 b (yL hr hb).2 (ho b hb)).1)
 | agg l vs hs => exact .agg _ _ (hs.tr h1 h2 h3 hB)
 | tup l vs hs => exact .tup _ _ (hs.tr h1 h2 h3 hB)
theorem VRs.tr {x : List AV} {y : List Value} (h : VRs B w O D g x y) (h1 : w.heap.size ≤ w'.heap.size) (h2 : ∀ b, b < w.heap.size → ¬ O b → ¬ O' b ∧ w'.heap[b]? = w.heap[b]?) (h3 : ∀ n, D n → D' n ∧ g' n = g n) (hB : B' ≤ B) : VRs B' w' O' D' g' x y := by
 cases h with
 | nil => exact .nil
 | cons x y l vs hx hs => exact .cons _ _ _ _ (hx.tr h1 h2 h3 hB) (hs.tr h1 h2 h3 hB)
end
theorem VRs.length {x : List AV} {y : List Value} (h : VRs B w O D g x y) : x.length = y.length := by
 induction x generalizing y with
 | nil => cases h; rfl
 | cons a l ih => cases h with | cons _ _ _ _ hx hs => simp [ih hs]
theorem VRs.get {x : List AV} {y : List Value} (h : VRs B w O D g x y) {i : Nat} {a : AV} (ha : x[i]? = some a) : ∃ v, y[i]? = some v ∧ VR B w O D g a v := by
 induction x generalizing y i with
 | nil => simp at ha
 | cons b l ih =>
  cases h with
  | cons _ z _ vs hx hs =>
   cases i with
   | zero => simp at ha; subst ha; exact ⟨z, by simp, hx⟩
   | succ i => simp at ha; obtain ⟨v, hv, hr⟩ := ih hs ha; exact ⟨v, by simpa using hv, hr⟩
theorem VRs.set {x : List AV} {y : List Value} (h : VRs B w O D g x y) (i : Nat) {a : AV} {v : Value} (ha : VR B w O D g a v) : VRs B w O D g (x.set i a) (y.set i v) := by
 induction x generalizing y i with
 | nil => cases h; exact .nil
 | cons b l ih =>
  cases h with
  | cons _ z _ vs hx hs =>
   cases i with
   | zero => exact .cons _ _ _ _ ha hs
   | succ i => exact .cons _ _ _ _ hx (ih hs i)
theorem VRs.take {x : List AV} {y : List Value} (h : VRs B w O D g x y) (n : Nat) : VRs B w O D g (x.take n) (y.take n) := by
 induction x generalizing y n with
 | nil => cases h; simp; exact .nil
 | cons b l ih =>
  cases h with
  | cons _ _ _ _ hx hs =>
   cases n with
   | zero => exact .nil
   | succ n => exact .cons _ _ _ _ hx (ih hs n)
theorem VRs.drop {x : List AV} {y : List Value} (h : VRs B w O D g x y) (n : Nat) : VRs B w O D g (x.drop n) (y.drop n) := by
 induction x generalizing y n with
 | nil => cases h; simp; exact .nil
 | cons b l ih =>
  cases h with
  | cons _ _ _ _ hx hs =>
   cases n with
   | zero => exact .cons _ _ _ _ hx hs
   | succ n => exact ih hs n
end
def rQ (B : Nat) (w : World) (O D : Nat → Prop) (g : Nat → Value) (y : Value) : Blk → Prop
 | .ints k e xs => w.ownsRow B e 1 y xs.length (nums k xs)
 | .cells l => ∃ b vs ty, y = .pointer (some ⟨b, 0, none⟩) ∧ B ≤ b ∧ w.heap[b]? = some (.cells ⟨vs⟩ ty (0, 0)) ∧ VRs B w O D g l vs
def Dom (h : List (Nat × Blk)) (n : Nat) : Prop := ∃ x, lk n h = some x
def O7 (h : List (Nat × Blk)) (g : Nat → Value) (b : Nat) : Prop := ∃ n, Dom h n ∧ bk (g n) = some b
def Wet (O0 : Nat → Prop) (h : List (Nat × Blk)) (g : Nat → Value) (b : Nat) : Prop := O0 b ∨ O7 h g b
structure Sim (w0 : World) (O0 : Nat → Prop) (nt : Nat) (s : St) (a : Act) (w : World) (g : Nat → Value) : Prop where
 o0 : ∀ b, O0 b → b < w0.heap.size
 sz : a.tmps.size = nt
 df : a.defers = []
 be : Below w0.heap.size w0 w
 tm : ∀ t x, lk t s.t = some x → VR w0.heap.size w (Wet O0 s.h g) (Dom s.h) g x (a.tmps.getD t undef)
 hp : ∀ n b, lk n s.h = some b → rQ w0.heap.size w (Wet O0 s.h g) (Dom s.h) g (g n) b
 ne : ∀ n m, Dom s.h n → Dom s.h m → ∀ k, bk (g n) = some k → bk (g m) = some k → n = m
theorem lD {α : Type} {n : Nat} {x : α} {l : List (Nat × α)} : lk n ((n, x) :: l) = some x := by simp [lk]
theorem kG {α : Type} {n m : Nat} {x : α} {l : List (Nat × α)} (h : n ≠ m) : lk m ((n, x) :: l) = lk m l := by
 have : Nat.beq n m = false := by cases hb : Nat.beq n m with | false => rfl | true => exact absurd (Nat.eq_of_beq_eq_true hb) h
 simp [lk, this]
theorem rQ.rU {B : Nat} {w : World} {O D : Nat → Prop} {g : Nat → Value} {y : Value} {b : Blk} (h : rQ B w O D g y b) {k : Nat} (hk : bk y = some k) : B ≤ k ∧ k < w.heap.size := by
 cases b with
 | ints kk e xs =>
  rcases h.2 with ⟨rfl, _⟩ | ⟨q, cap, cur, rfl, hb, hh, _⟩
  ·simp [bk] at hk
  ·simp [bk] at hk; subst hk; exact ⟨hb, (Array.getElem?_eq_some_iff.1 hh).1⟩
 | cells l =>
  obtain ⟨q, vs, ty, rfl, hb, hh, _⟩ := h
  simp [bk] at hk; subst hk; exact ⟨hb, (Array.getElem?_eq_some_iff.1 hh).1⟩
theorem rQ.tr {B : Nat} {w w' : World} {O D O' D' : Nat → Prop} {g g' : Nat → Value} {y : Value} {b : Blk} (h : rQ B w O D g y b) (h1 : w.heap.size ≤ w'.heap.size) (h2 : ∀ b, b < w.heap.size → ¬ O b → ¬ O' b ∧ w'.heap[b]? = w.heap[b]?) (h3 : ∀ n, D n → D' n ∧ g' n = g n)
  (hs : ∀ k, bk y = some k → w'.heap[k]? = w.heap[k]?) : rQ B w' O' D' g' y b := by
 cases b with
 | ints kk e xs =>
  refine ⟨h.1, ?_⟩
  rcases h.2 with h | ⟨q, cap, cur, rfl, hb, hh, r⟩
  ·exact .inl h
  ·exact .inr ⟨q, cap, cur, rfl, hb, by rw [hs q (by simp [bk])]; exact hh, r⟩
 | cells l =>
  obtain ⟨q, vs, ty, rfl, hb, hh, r⟩ := h
  exact ⟨q, vs, ty, rfl, hb, by rw [hs q (by simp [bk])]; exact hh, r.tr h1 h2 h3 (Nat.le_refl _)⟩
section
variable {w0 w w' : World} {O0 : Nat → Prop} {nt : Nat} {s : St} {a : Act} {g : Nat → Value}
theorem Sim.GL (h : Sim w0 O0 nt s a w g) {b : Nat} (hb : O7 s.h g b) : w0.heap.size ≤ b ∧ b < w.heap.size := by
 obtain ⟨n, ⟨x, hx⟩, hk⟩ := hb
 exact (h.hp n x hx).rU hk
theorem Sim.world (h : Sim w0 O0 nt s a w g) (hw : Below w.heap.size w w') : Sim w0 O0 nt s a w' g where
 o0 := h.o0
 sz := h.sz
 df := h.df
 be := h.be.trans (hw.mono h.be.size)
 tm := fun t x hx => (h.tm t x hx).tr hw.size (fun b hb ho => ⟨ho, hw.block b hb⟩) (fun n hn => ⟨hn, rfl⟩) (Nat.le_refl _)
 hp := fun n b hn => (h.hp n b hn).tr hw.size (fun b hb ho => ⟨ho, hw.block b hb⟩) (fun n hn => ⟨hn, rfl⟩) (fun k hk => hw.block k ((h.hp n b hn).rU hk).2)
 ne := h.ne
theorem Sim.put (h : Sim w0 O0 nt s a w g) {d : Nat} (hd : d < nt) {x : AV} {v : Value} (hx : VR w0.heap.size w (Wet O0 s.h g) (Dom s.h) g x v) : Sim w0 O0 nt ⟨(d, x) :: s.t, s.h⟩ (a.put (some d) v) w g where
 o0 := h.o0
 sz := by simp [Act.put, h.sz]
 df := by simp [Act.put, h.df]
 be := h.be
 tm := fun t y hy => by
  by_cases e : d = t
  ·subst e
   rw [lD] at hy
   obtain rfl := Option.some.inj hy
   simp only [Act.put]
   rw [Array.getD_eq_getD_getElem?, Array.getElem?_setIfInBounds_self_of_lt (by rw [h.sz]; exact hd)]
   exact hx
  ·rw [kG e] at hy
   have := h.tm t y hy
   simp only [Act.put]
   rw [Array.getD_eq_getD_getElem?, Array.getElem?_setIfInBounds_ne e, ← Array.getD_eq_getD_getElem?]
   exact this
 hp := h.hp
 ne := h.ne
theorem Sim.yM (h : Sim w0 O0 nt s a w g) (v : Value) : Sim w0 O0 nt s (a.put none v) w g := by simpa [Act.put] using h
theorem Sim.fresh (h : Sim w0 O0 nt s a w g) {n : Nat} (hn : lk n s.h = none) {y : Value} {b : Blk} (hw : Below w.heap.size w w') (hy : ∀ k, bk y = some k → w.heap.size ≤ k)
  (hb : rQ w0.heap.size w' (Wet O0 ((n, b) :: s.h) (fun m => if m = n then y else g m)) (Dom ((n, b) :: s.h)) (fun m => if m = n then y else g m) y b) :
  Sim w0 O0 nt ⟨s.t, (n, b) :: s.h⟩ a w' (fun m => if m = n then y else g m) := by
 have hnd : ¬ Dom s.h n := fun ⟨x, hx⟩ => by rw [hn] at hx; cases hx
 have hD : ∀ m, Dom s.h m → Dom ((n, b) :: s.h) m ∧ (fun m => if m = n then y else g m) m = g m := fun m hm => by
  have : n ≠ m := fun e => hnd (e ▸ hm)
  obtain ⟨x, hx⟩ := hm
  exact ⟨⟨x, by rw [kG this]; exact hx⟩, by simp [Ne.symm this]⟩
 have hG : ∀ m, Dom s.h m → (if m = n then y else g m) = g m := fun m hm => (hD m hm).2
 have hD' : ∀ m, Dom ((n, b) :: s.h) m → m = n ∨ Dom s.h m := fun m ⟨x, hx⟩ => by
  by_cases e : n = m
  ·exact .inl e.symm
  ·rw [kG e] at hx; exact .inr ⟨x, hx⟩
 have hO : ∀ q, q < w.heap.size → ¬ Wet O0 s.h g q → ¬ Wet O0 ((n, b) :: s.h) (fun m => if m = n then y else g m) q ∧ w'.heap[q]? = w.heap[q]? := fun q hq ho => by
  refine ⟨fun ho' => ?_, hw.block q hq⟩
  rcases ho' with ho' | ⟨m, hm, hk⟩
  ·exact ho (.inl ho')
  rcases hD' m hm with e | hm'
  ·simp only [e, if_true] at hk
   have := hy q hk
   omega
  ·rw [(hD m hm').2] at hk
   exact ho (.inr ⟨m, hm', hk⟩)
 refine ⟨h.o0, h.sz, h.df, h.be.trans (hw.mono h.be.size), fun t x hx => (h.tm t x hx).tr hw.size hO hD (Nat.le_refl _), fun m c hm => ?_, ?_⟩
 ·by_cases e : n = m
  ·subst e
   rw [lD] at hm
   obtain rfl := Option.some.inj hm
   simpa using hb
  ·rw [kG e] at hm
   simp only [Ne.symm e, if_false]
   exact (h.hp m c hm).tr hw.size hO hD (fun k hk => hw.block k ((h.hp m c hm).rU hk).2)
 ·intro p q hp hq k hpk hqk
  rcases hD' p hp with e | hp' <;> rcases hD' q hq with e' | hq'
  ·rw [e, e']
  ·rw [hG q hq'] at hqk
   simp only [e, if_true] at hpk
   obtain ⟨x, hx⟩ := hq'
   have h1 := hy k hpk
   have h2 := ((h.hp q x hx).rU hqk).2
   omega
  ·rw [hG p hp'] at hpk
   simp only [e', if_true] at hqk
   obtain ⟨x, hx⟩ := hp'
   have h1 := hy k hqk
   have h2 := ((h.hp p x hx).rU hpk).2
   omega
  ·rw [hG p hp'] at hpk
   rw [hG q hq'] at hqk
   exact h.ne p q hp' hq' k hpk hqk
end
end Go.Proofs.YtafikkmnkeddpaaGreatDoor.E
namespace Go.Proofs.YtafikkmnkeddpaaGreatDoor.E
open Go.RowKit Go.Proofs.YtafikkmnkeddpaaGreatDoorW.PrintWords Go.Proofs.YtafikkmnkeddpaaGreatDoorW.PrintLast Go.Proofs.YtafikkmnkeddpaaGreatDoorW.PrintMore
inductive Z where
 | v (x : Value)
 | s (k : IntKind)
def Z.av : Z → AV
 | .v x => .v x
 | .s k => .ro true k []
def Z.val : Z → Value
 | .v x => x
 | .s _ => .slice none 0 0
inductive TI where
 | int (k : IntKind)
 | bool
 | str
 | sl (e : TypeId) (k : IntKind) (b : Nat)
 | st (zs : List Z) (fs : List (Nat × Nat × Bool))
def TI.zero : TI → List AV
 | .int k => [.v (.int k 0)]
 | .bool => [.v (.bool false)]
 | .str => [.v (.string ⟨#[]⟩)]
 | .sl _ k _ => [.ro true k []]
 | .st zs _ => zs.map Z.av
inductive PP where
 | c (p : List Nat)
 | b (id : Nat)
 | l (p : List Nat)
 | s (p : List Nat)
inductive PI where
 | c (p : List Nat) (x : Code)
 | b (id : Nat)
 | l (p : List Nat) (x : Code)
 | s (p : List Nat) (x : Code)
def sub : Code → List Nat → Option Code
 | c, [] => some c
 | .seq a _, 0 :: p => sub a p
 | .seq _ b, 1 :: p => sub b p
 | .cond _ a _, 0 :: p => sub a p
 | .cond _ _ b, 1 :: p => sub b p
 | .block _ c, 0 :: p => sub c p
 | .loop c, 0 :: p => sub c p
 | .scope c, 0 :: p => sub c p
 | _, _ => none
def fill (body : Code) : List PP → Option (List PI)
 | [] => some []
 | x :: r => match fill body r with
  | none => none
  | some k => match x with
   | .c p => match sub body p with
    | some c => some (.c p c :: k)
    | none => none
   | .b id => some (.b id :: k)
   | .l p => match sub body p with
    | some c => some (.l p c :: k)
    | none => none
   | .s p => match sub body p with
    | some c => some (.s p c :: k)
    | none => none
def eqN : List Nat → List Nat → Bool
 | [], [] => true
 | a :: l, b :: m => match Nat.beq a b with
  | true => eqN l m
  | false => false
 | _, _ => false
def eqP : List PI → List PP → Bool
 | [], [] => true
 | .c p _ :: k, .c q :: m => match eqN p q with
  | true => eqP k m
  | false => false
 | .l p _ :: k, .l q :: m => match eqN p q with
  | true => eqP k m
  | false => false
 | .s p _ :: k, .s q :: m => match eqN p q with
  | true => eqP k m
  | false => false
 | .b i :: k, .b j :: m => match Nat.beq i j with
  | true => eqP k m
  | false => false
 | _, _ => false
def DF (id : Nat) : List PI → Option (List PI)
 | .b i :: k => match Nat.beq i id with
  | true => some k
  | false => DF id k
 | _ :: k => DF id k
 | [] => none
structure Pt where
 pp : List PP
 ss : List (Nat × Option IntKind × List Bool)
 bs : List (Nat × List Bool)
 rs : List (Nat × IntKind × TypeId)
 ws : List Nat
 ap : St → Option AV
structure Env where
 nt : Nat
 ty : List (TypeId × TI)
 fn : List (FuncId × (List AV → (AV → Option AV) → Option AV))
 pt : List (Nat × Pt)
 od : List (Nat × List Nat)
 al : Bool
 rt : List TypeId
 nw : Bool
def Ae : IntKind → IntKind → Bool
 | .i8, .i8 | .i16, .i16 | .i32, .i32 | .i64, .i64 | .u8, .u8 | .u16, .u16 | .u32, .u32 | .u64, .u64 => true
 | _, _ => false
def wr : IntKind → Int → Int
 | .i64, n => wrap64 n
 | .u8, n => n % 256
 | k, n => k.wrap n
def evA (s : St) : Operand → Option AV
 | .tmp t => lk t s.t
 | .const v => some (.v v)
 | .func f => some (.v (.func (.func f) #[] #[]))
 | .global _ => none
def rZ (E : Env) (t : TypeId) (x : AV) : AV :=
 match x with
 | .v (.slice none 0 0) => match lk t E.ty with
  | some (.sl _ k _) => .ro true k []
  | _ => x
 | _ => x
def lY (E : Env) (d : Option Tmp) (x : AV) (s : St) (K : St → Option AV) : Option AV :=
 match d with
 | none => K s
 | some d => match Nat.blt d E.nt with
  | true => K ⟨(d, x) :: s.t, s.h⟩
  | false => none
def uq (E : Env) (d : Option Tmp) (b : Blk) (x : Nat → AV) (s : St) (K : St → Option AV) : Option AV :=
 match d with
 | none => none
 | some d => match lk d s.h with
  | some _ => none
  | none => lY E (some d) (x d) ⟨s.t, (d, b) :: s.h⟩ K
def Qr (op : BinOp) (a b : AV) (K : AV → Option AV) : Option AV :=
 match a, b with
 | .v (.int k x), .v (.int k' y) => match op with
  | .shl => if 0 ≤ y then K (.v (.int k (shl k x y))) else none
  | .shr => if 0 ≤ y then K (.v (.int k (shr k x y))) else none
  | op => match Ae k k' with
   | false => none
   | true => match op with
    | .add => K (.v (.int k (wr k (x + y))))
    | .sub => K (.v (.int k (wr k (x - y))))
    | .mul => K (.v (.int k (wr k (x * y))))
    | .quo => if y = 0 then none else K (.v (.int k (wr k (Int.tdiv x y))))
    | .rem => if y = 0 then none else K (.v (.int k (Int.tmod x y)))
    | .and => K (.v (.int k (Go.bits .and k x y)))
    | .or => K (.v (.int k (Go.bits .or k x y)))
    | .xor => K (.v (.int k (Go.bits .xor k x y)))
    | .andNot => K (.v (.int k (Go.bits .andNot k x y)))
    | .eql => K (.v (.bool (x == y)))
    | .neq => K (.v (.bool (x != y)))
    | .lss => K (.v (.bool (decide (x < y))))
    | .leq => K (.v (.bool (decide (x ≤ y))))
    | .gtr => K (.v (.bool (decide (x > y))))
    | .geq => K (.v (.bool (decide (x ≥ y))))
    | _ => none
 | .v (.string x), .v (.string y) => match op with
  | .add => if x.size + y.size ≤ 9223372036854775807 then K (.v (.string (x ++ y))) else none
  | .eql => K (.v (.bool (x.toList == y.toList)))
  | .neq => K (.v (.bool (x.toList != y.toList)))
  | _ => none
 | _, _ => none
def aun (op : UnOp) (a : AV) (K : AV → Option AV) : Option AV :=
 match op, a with
 | .neg, .v (.int k x) => K (.v (.int k (wr k (-x))))
 | .not, .v (.bool b) => K (.v (.bool (!b)))
 | _, _ => none
def rowOf (s : St) : AV → Option (Bool × IntKind × List Int)
 | .ro f k xs => some (f, k, xs)
 | .own n => match lk n s.h with
  | some (.ints k _ xs) => some (true, k, xs)
  | _ => none
 | _ => none
mutual
def low (s : St) : AV → Option AV
 | .v x => some (.v x)
 | .ro f k xs => some (.ro f k xs)
 | .own n => match lk n s.h with
  | some (.ints k _ xs) => some (.ro true k xs)
  | _ => none
 | .agg l => match Af s l with
  | some l => some (.agg l)
  | none => none
 | .tup l => match Af s l with
  | some l => some (.tup l)
  | none => none
 | _ => none
def Af (s : St) : List AV → Option (List AV)
 | [] => some []
 | x :: l => match low s x with
  | none => none
  | some y => match Af s l with
   | some m => some (y :: m)
   | none => none
end
def evs (s : St) : List Operand → Option (List AV)
 | [] => some []
 | x :: l => match evA s x with
  | none => none
  | some y => match evs s l with
   | some m => some (y :: m)
   | none => none
def JG (E : Env) : List TypeId → List AV → List AV
 | t :: ts, x :: l => rZ E t x :: JG E ts l
 | _, l => l
def over : List AV → Nat → List AV → List AV
 | l, _, [] => l
 | l, i, x :: r => over (l.set i x) (i + 1) r
def fit : AV → Bool
 | .v (.agg _) | .v (.tuple _) | .top | .agg _ | .tup _ | .new _ _ _ => false
 | _ => true
def fits : List AV → Bool
 | [] => true
 | x :: l => match fit x with
  | true => fits l
  | false => false
def yN (s : St) : List (Nat × Operand) → Option (List (Nat × AV))
 | [] => some []
 | (i, x) :: l => match evA s x with
  | none => none
  | some y => match yN s l with
   | some m => some ((i, y) :: m)
   | none => none
def GN (k : IntKind) (i : Nat) : List (Nat × AV) → Option (List Int)
 | [] => some []
 | (j, .v (.int k' n)) :: l => match Nat.beq i j, Ae k k' with
  | true, true => match GN k (i + 1) l with
   | some m => some (n :: m)
   | none => none
  | _, _ => none
 | _ => none
def yO (fs : List (Nat × Nat × Bool)) : List AV → List (Nat × AV) → Option (List AV)
 | cs, [] => some cs
 | cs, (i, x) :: l => match fs[i]? with
  | some (o, n, _) => match x with
   | .agg ys => match Nat.beq ys.length n, Nat.ble (o + n) cs.length with
    | true, true => yO fs (over cs o ys) l
    | _, _ => none
   | x => match fit x, Nat.beq n 1, Nat.ble (o + 1) cs.length with
    | true, true, true => yO fs (cs.set o x) l
    | _, _, _ => none
  | none => none
def JH (E : Env) (d : Option Tmp) (b : ByteArray) (lo : Option Operand) (s : St) (K : St → Option AV) (h : Int) : Option AV :=
 match lo with
 | none => lY E d (.v (.string (b.extract 0 h.toNat))) s K
 | some y => match evA s y with
  | some (.v (.int _ n)) => if 0 ≤ n then if n ≤ h then lY E d (.v (.string (b.extract n.toNat h.toNat))) s K else none else none
  | _ => none
def OO (b : ByteArray) (hi : Option Operand) (s : St) (J : Int → Option AV) : Option AV :=
 match hi with
 | none => J (b.size : Int)
 | some y => match evA s y with
  | some (.v (.int _ n)) => if 0 ≤ n then if n ≤ (b.size : Int) then J n else none else none
  | _ => none
def JI : Operand → Operand → Bool
 | .tmp a, .tmp b => Nat.beq a b
 | .const (.int _ a), .const (.int _ b) => decide (a = b)
 | _, _ => false
mutual
def dry : AV → AV
 | .ro _ k xs => .ro false k xs
 | .agg l => .agg (IG l)
 | .tup l => .tup (IG l)
 | x => x
def IG : List AV → List AV
 | [] => []
 | x :: l => dry x :: IG l
end
mutual
def fresh : AV → Bool
 | .ro f _ _ => f
 | .agg l => yP l
 | .tup l => yP l
 | .v _ => true
 | _ => false
def yP : List AV → Bool
 | [] => true
 | x :: l => match fresh x with
  | true => yP l
  | false => false
end
mutual
def JJ : AV → Bool
 | .own _ => false
 | .agg l => nO l
 | .tup l => nO l
 | _ => true
def nO : List AV → Bool
 | [] => true
 | x :: l => match JJ x with
  | true => nO l
  | false => false
end
def EW : List AV → Bool
 | [] => true
 | .v _ :: l => EW l
 | _ => false
mutual
def kill (n : Nat) : AV → AV
 | .own m => match Nat.beq m n with
  | true => .top
  | false => .own m
 | .ept m i => match Nat.beq m n with
  | true => .top
  | false => .ept m i
 | .agg l => .agg (kills n l)
 | .tup l => .tup (kills n l)
 | x => x
def kills (n : Nat) : List AV → List AV
 | [] => []
 | x :: l => kill n x :: kills n l
end
def xu (n : Nat) : Blk → Blk
 | .cells l => .cells (kills n l)
 | b => b
def grow (E : Env) (d : Option Tmp) (n : Nat) (k : IntKind) (e : TypeId) (xs : List Int) (s : St) (K : St → Option AV) : Option AV :=
 lY E d (.own n) ⟨s.t.map fun x => (x.1, kill n x.2), (n, .ints k e xs) :: s.h.map fun x => (x.1, xu n x.2)⟩ K
def exec (E : Env) (o : Oper) (s : St) (K : St → Option AV) : Option AV :=
 match o.op with
 | .move x | .assign x => match evA s x with
  | some v => lY E o.dst v s K
  | none => none
 | .pick c a b => match evA s c with
  | some (.v (.bool p)) => if p = true then (match evA s a with
    | some x => lY E o.dst x s K
    | none => none) else (match evA s b with
    | some x => lY E o.dst x s K
    | none => none)
  | _ => none
 | .binOp op t x y _ => match evA s x, evA s y with
  | some (.v (.bool a)), some (.v (.bool b)) => match lk t E.ty, op with
   | some .bool, .eql => lY E o.dst (.v (.bool (a == b))) s K
   | some .bool, .neq => lY E o.dst (.v (.bool (a != b))) s K
   | _, _ => none
  | some a, some b => Qr op a b fun r => lY E o.dst r s K
  | _, _ => none
 | .unOp op _ x => match evA s x with
  | some a => aun op a fun r => lY E o.dst r s K
  | none => none
 | .convert src dst x => match evA s x, lk src E.ty, lk dst E.ty with
  | some (.v (.int _ n)), some _, some (.int k) => lY E o.dst (.v (.int k (wr k n))) s K
  | some a, some (.sl _ .u8 _), some .str => match rowOf s a with
   | some (_, .u8, xs) => lY E o.dst (.v (.string (strOfNums xs))) s K
   | _ => none
  | some (.v (.string t)), some .str, some .str => lY E o.dst (.v (.string t)) s K
  | _, _, _ => none
 | .load t x => match evA s x with
  | some (.ptr n off) => match lk n s.h, lk t E.ty with
   | some (.cells l), some (.st zs _) => match Nat.ble (off + zs.length) l.length with
    | true => lY E o.dst (.agg ((l.drop off).take zs.length)) s K
    | false => none
   | some (.cells l), some _ => match l[off]? with
    | some y => lY E o.dst y s K
    | none => none
   | _, _ => none
  | some (.ept n i) => match lk n s.h, lk t E.ty with
   | some (.ints k _ xs), some (.int _) => lY E o.dst (.v (.int k (rd xs i))) s K
   | _, _ => none
  | some (.rpt y) => match lk t E.ty with
   | some (.int _) => lY E o.dst (.v y) s K
   | _ => none
  | _ => none
 | .store t x y => match o.dst, evA s x, evA s y with
  | none, some (.ptr n off), some z => match lk n s.h with
   | some (.cells l) => match z, lk t E.ty with
    | .agg zs, some (.st ws _) => match Nat.beq zs.length ws.length, Nat.ble (off + zs.length) l.length && fits zs with
     | true, true => K ⟨s.t, (n, .cells (over l off zs)) :: s.h⟩
     | _, _ => none
    | z, some ti => match rZ E t z, Nat.beq ti.zero.length 1, Nat.blt off l.length with
     | z, true, true => match fit z with
      | true => K ⟨s.t, (n, .cells (l.set off z)) :: s.h⟩
      | false => none
     | _, _, _ => none
    | _, _ => none
   | _ => none
  | none, some (.ept n i), some (.v (.int k z)) => match lk n s.h, lk t E.ty with
   | some (.ints k' e xs), some (.int _) => match Ae k k' with
    | true => K ⟨s.t, (n, .ints k' e (xs.set i.toNat z)) :: s.h⟩
    | false => none
   | _, _ => none
  | _, _, _ => none
 | .alloc e => match lk e E.ty with
  | some ti => uq E o.dst (.cells ti.zero) (fun d => .ptr d 0) s K
  | none => none
 | .box e x => match evA s x, lk e E.ty with
  | some (.agg l), some (.st _ _) => uq E o.dst (.cells l) (fun d => .ptr d 0) s K
  | some x, some (.st _ _) => none
  | some x, some _ => match fit x with
   | true => uq E o.dst (.cells [x]) (fun d => .ptr d 0) s K
   | false => none
  | _, _ => none
 | .build t ps => match yN s ps.toList, lk t E.ty with
  | some l, some (.st zs fs) => match yO fs (zs.map Z.av) l with
   | some cs => lY E o.dst (.agg cs) s K
   | none => none
  | _, _ => none
 | .buildSlice t n ps => match yN s ps.toList, lk t E.ty with
  | some l, some (.sl e k _) => match GN k 0 l with
   | some xs => match Nat.beq xs.length n, Nat.ble n 1000 with
    | true, true => uq E o.dst (.ints k e xs) (fun d => .own d) s K
    | _, _ => none
   | none => none
  | _, _ => none
 | .fieldAddr t x f => match evA s x, lk t E.ty with
  | some (.ptr n off), some (.st _ fs) => match fs[f]? with
   | some (o', n', _) => match Nat.blt 0 n' with
    | true => lY E o.dst (.ptr n (off + o')) s K
    | false => none
   | none => none
  | _, _ => none
 | .field t x f => match evA s x, lk t E.ty with
  | some (.agg l), some (.st _ fs) => match fs[f]? with
   | some (o', n, true) => match Nat.ble (o' + n) l.length with
    | true => lY E o.dst (.agg ((l.drop o').take n)) s K
    | false => none
   | some (o', _, false) => match l[o']? with
    | some y => lY E o.dst y s K
    | none => none
   | none => none
  | _, _ => none
 | .indexAddr t x i => match evA s x, evA s i, lk t E.ty with
  | some (.ro _ k xs), some (.v (.int _ n)), some (.sl _ _ _) =>
   if 0 ≤ n then if n < (xs.length : Int) then lY E o.dst (.rpt (.int k (rd xs n))) s K else none else none
  | some (.own m), some (.v (.int _ n)), some (.sl _ _ _) => match lk m s.h with
   | some (.ints _ _ xs) => if 0 ≤ n then if n < (xs.length : Int) then lY E o.dst (.ept m n) s K else none else none
   | _ => none
  | _, _, _ => none
 | .index t x i => match evA s x, evA s i, lk t E.ty with
  | some (.v (.string b)), some (.v (.int _ n)), some .str =>
   if 0 ≤ n then if n < (b.size : Int) then lY E o.dst (.v (.int .u8 (bt b n))) s K else none else none
  | _, _, _ => none
 | .extract x i => match evA s x with
  | some (.tup l) => match l[i]? with
   | some y => lY E o.dst y s K
   | none => none
  | _ => none
 | .makeSlice t l c => match evA s l, evA s c, lk t E.ty with
  | some (.v (.int .i64 x)), some (.v (.int .i64 y)), some (.sl e k b) => match JI l c with
   | true => if 0 ≤ x then if (x.toNat * b : Nat) ≤ 281474976710656 then uq E o.dst (.ints k e (List.replicate x.toNat 0)) (fun d => .own d) s K else none else none
   | false => if x = 0 then (if 0 ≤ y then if (y.toNat * b : Nat) ≤ 281474976710656 then uq E o.dst (.ints k e []) (fun d => .own d) s K else none else none) else none
  | _, _, _ => none
 | .slice t x lo hi none => match evA s x, lk t E.ty with
  | some (.v (.string b)), some .str => OO b hi s (JH E o.dst b lo s K)
  | _, _ => none
 | .call { callee := .builtin .len, args, argTypes } => match evs s args.toList, argTypes.toList with
  | some [.v (.string b)], [t] => match lk t E.ty with
   | some .str => lY E o.dst (.v (.int .i64 (b.size : Int))) s K
   | _ => none
  | some [x], [t] => match lk t E.ty, rowOf s (rZ E t x) with
   | some (.sl _ _ _), some (_, _, xs) => lY E o.dst (.v (.int .i64 (xs.length : Int))) s K
   | _, _ => none
  | _, _ => none
 | .call { callee := .builtin .min, args, .. } => match evs s args.toList with
  | some [.v (.int k x), .v (.int k' y)] => match Ae k k' with
   | true => lY E o.dst (.v (.int k (mn x y))) s K
   | false => none
  | _ => none
 | .call { callee := .builtin .max, args, .. } => match evs s args.toList with
  | some [.v (.int k x), .v (.int k' y)] => match Ae k k' with
   | true => lY E o.dst (.v (.int k (mx x y))) s K
   | false => none
  | _ => none
 | .call { callee := .builtin .append, args, argTypes } => match evs s args.toList, argTypes.toList with
  | some [x, y], [t, t'] => match Nat.beq t t', lk t E.ty with
   | true, some (.sl e k b) => match rZ E t x, rowOf s (rZ E t y) with
    | .own n, some (_, k', ys) => match lk n s.h, Ae k k' with
     | some (.ints k2 e2 xs), true => match Ae k k2, Nat.beq e e2 with
      | true, true => if (xs.length + ys.length) * b ≤ 140737488355328 then grow E o.dst n k e (xs ++ ys) s K else none
      | _, _ => none
     | _, _ => none
    | .ro _ _ [], some (_, k', ys) => match x, Ae k k' with
     | .v (.slice none 0 0), true => if ys.length * b ≤ 140737488355328 then uq E o.dst (.ints k e ys) (fun d => .own d) s K else none
     | _, _ => none
    | _, _ => none
   | _, _ => none
  | _, _ => none
 | .call { callee := .value (.func f), args, argTypes } => match evs s args.toList, lk f E.fn with
  | some l, some app => match Af s (JG E argTypes.toList l) with
   | some l' => app (IG l') fun r => match r with
    | .new e k xs => uq E o.dst (.ints k e xs) (fun d => .own d) s K
    | .tup (.new e k xs :: m) => match EW m with
     | true => uq E o.dst (.ints k e xs) (fun d => .tup (.own d :: m)) s K
     | false => none
    | r => match fresh r || nO l with
     | true => lY E o.dst r s K
     | false => none
   | none => none
  | _, _ => none
 | _ => none
def nP (E : Env) (ops : Array Oper) : List Oper → St → (St → Option AV) → Option AV
 | [], s, K => K s
 | o :: r, s, K => match o.guard with
  | none => exec E o s fun s => nP E ops r s K
  | some (j, want) => match (ops[j]?).bind (·.dst) with
   | some d => match lk d s.t, Nat.blt d E.nt with
    | some (.v (.bool b)), true =>
     match instDecidableEqBool b want with
     | .isTrue _ => exec E o ⟨(d, .v (.bool want)) :: s.t, s.h⟩ fun s => nP E ops r s K
     | .isFalse _ => lY E o.dst (.v undef) ⟨(d, .v (.bool (!want))) :: s.t, s.h⟩ fun s => nP E ops r s K
    | some (.v (.tuple _)), true => lY E o.dst (.v undef) s fun s => nP E ops r s K
    | _, _ => none
   | none => none
def inOrder (ops : Array Oper) : List Nat → Option (List Oper)
 | [] => some []
 | i :: r => match ops[i]?, inOrder ops r with
  | some o, some l => some (o :: l)
  | _, _ => none
mutual
def weak : List Bool → AV → AV × List Bool
 | fs, .ro f k xs => match fs with
  | false :: r => (.ro false k xs, r)
  | _ :: r => (.ro f k xs, r)
  | [] => (.ro f k xs, [])
 | fs, .agg l => (.agg (uy fs l).1, (uy fs l).2)
 | fs, .tup l => (.tup (uy fs l).1, (uy fs l).2)
 | fs, x => (x, fs)
def uy : List Bool → List AV → List AV × List Bool
 | fs, [] => ([], fs)
 | fs, x :: l => ((weak fs x).1 :: (uy (weak fs x).2 l).1, (uy (weak fs x).2 l).2)
end
def EX (E : Env) (s : St) (ty : TypeId) : ResultVar → Option AV
 | .tmp t => match lk t s.t with
  | some x => match E.nw, x with
   | true, .own n => match lk n s.h with
    | some (.ints k e xs) => some (.new e k xs)
    | _ => none
   | _, x => low s (rZ E ty x)
  | none => none
 | .cell a t => match lk a s.t with
  | some (.ptr n off) => match lk n s.h, lk t E.ty with
   | some (.cells l), some (.st zs _) => match Nat.ble (off + zs.length) l.length with
    | true => low s (.agg ((l.drop off).take zs.length))
    | false => none
   | some (.cells l), some _ => match l[off]? with
    | some y => low s y
    | none => none
   | _, _ => none
  | _ => none
def yQ (E : Env) (s : St) : List TypeId → List ResultVar → Option (List AV)
 | _, [] => some []
 | t :: ts, r :: l => match EX E s t r, yQ E s ts l with
  | some x, some m => some (x :: m)
  | _, _ => none
 | [], _ => none
def DI (E : Env) (s : St) (rs : List ResultVar) : Option AV :=
 match yQ E s E.rt rs with
 | some [x] => match E.al with
  | true => some (weak (List.replicate 100 false) x).1
  | false => some x
 | some l => match E.al with
  | true => some (weak (List.replicate 100 false) (.tup l)).1
  | false => some (.tup l)
 | none => none
def MQ (k : Option IntKind) (x : AV) : AV :=
 match k, x with
 | some k, .v (.slice none 0 0) => .ro true k []
 | _, x => x
def GR (s : St) : List (Nat × Option IntKind × List Bool) → Option (List (Nat × AV))
 | [] => some []
 | q :: l => match lk q.1 s.t with
  | none => none
  | some x => match low s x, GR s l with
   | some y, some m => some ((q.1, (weak q.2.2 (MQ q.2.1 y)).1) :: m)
   | _, _ => none
def GU (s : St) : List (Nat × List Bool) → Option (List (Nat × Nat × Blk))
 | [] => some []
 | q :: l => match lk q.1 s.t with
  | some (.ptr n 0) => match lk n s.h with
   | some (.cells c) => match Af s c, GU s l with
    | some d, some m => some ((q.1, n, .cells (uy q.2 d).1) :: m)
    | _, _ => none
   | _ => none
  | _ => none
def BL (s : St) : List Nat → Option (List (Nat × Nat × Blk))
 | [] => some []
 | q :: l => match lk q s.t with
  | some (.ptr n 0) => match lk n s.h, BL s l with
   | some (.cells c), some m => some ((q, n, .cells (c.map fun _ => .top)) :: m)
   | _, _ => none
  | _ => none
def rowAt (s : St) : List (Nat × IntKind × TypeId) → Option (List (Nat × Option Nat × Blk))
 | [] => some []
 | q :: l => match lk q.1 s.t with
  | some (.own n) => match lk n s.h, rowAt s l with
   | some (.ints k e xs), some m => match Ae k q.2.1, Nat.beq e q.2.2 with
    | true, true => some ((q.1, some n, .ints k e xs) :: m)
    | _, _ => none
   | _, _ => none
  | some (.v (.slice none 0 0)) => match rowAt s l with
   | some m => some ((q.1, none, .ints q.2.1 q.2.2 []) :: m)
   | none => none
  | _ => none
def uz : List (Option Nat) → List Nat
 | [] => []
 | some n :: l => n :: uz l
 | none :: l => uz l
def BM (n : Nat) : List Nat → Bool
 | [] => false
 | m :: l => match Nat.beq m n with
  | true => true
  | false => BM n l
def yR : List Nat → Bool
 | [] => true
 | m :: l => match BM m l with
  | true => false
  | false => yR l
mutual
def pJ (ns : List Nat) : AV → Bool
 | .own n => !BM n ns
 | .agg l => oU ns l
 | .tup l => oU ns l
 | _ => true
def oU (ns : List Nat) : List AV → Bool
 | [] => true
 | x :: l => match pJ ns x with
  | true => oU ns l
  | false => false
end
def BN (s : St) (ns : List Nat) : List (Nat × Option IntKind × List Bool) → Bool
 | [] => true
 | q :: l => match lk q.1 s.t with
  | some x => match pJ ns x with
   | true => BN s ns l
   | false => false
  | none => false
def xW (s : St) (ns : List Nat) : List (Nat × Nat × Blk) → Bool
 | [] => true
 | q :: l => match lk q.2.1 s.h with
  | some (.cells c) => match oU ns c with
   | true => xW s ns l
   | false => false
  | _ => false
def canon (p : Pt) (s : St) : Option St :=
 match GR s p.ss, GU s p.bs, rowAt s p.rs, BL s p.ws with
 | some a, some b, some c, some d =>
  match yR ((b ++ d).map (·.2.1) ++ uz (c.map (·.2.1))), yR ((b ++ d).map (·.1) ++ c.map (·.1)), BN s (uz (c.map (·.2.1))) p.ss, xW s (uz (c.map (·.2.1))) b with
  | true, true, true, true => some ⟨a ++ (b ++ d).map (fun x => (x.1, .ptr x.1 0)) ++ c.map (fun x => (x.1, .own x.1)), (b ++ d).map (fun x => (x.1, x.2.2)) ++ c.map (fun x => (x.1, x.2.2))⟩
  | _, _, _, _ => none
 | _, _, _, _ => none
def MR (E : Env) (key : Nat) (first : Bool) (todo : List PI) (s : St) (go : Option AV) : Option AV :=
 match first, lk key E.pt with
 | false, some p => match eqP todo p.pp with
  | true => match canon p s with
   | some s => p.ap s
   | none => none
  | false => go
 | _, _ => go
def run (E : Env) (rs : List ResultVar) : Nat → Bool → List PI → St → Option AV
 | 0, _, _, _ => none
 | n + 1, first, todo, s => match todo with
  | [] => DI E s rs
  | .b _ :: k | .s _ _ :: k => run E rs n first k s
  | .l p c :: k => run E rs n first (.c p c :: .l p c :: k) s
  | .c p x :: k => match x with
   | .ret => DI E s rs
   | .skip | .label _ => run E rs n first k s
   | .scope c => run E rs n first (.c (p ++ [0]) c :: .s (p ++ [0]) c :: k) s
   | .seq a b => run E rs n first (.c (p ++ [0]) a :: .c (p ++ [1]) b :: k) s
   | .block id c => run E rs n first (.c (p ++ [0]) c :: .b id :: k) s
   | .loop c => run E rs n first (.c (p ++ [0]) c :: .l (p ++ [0]) c :: k) s
   | .exit id => match DF id k with
    | some k => run E rs n first k s
    | none => none
   | .cond (.tmp c) x y => MR E (100000 + c) first todo s <| match lk c s.t with
    | some (.v (.bool b)) => if b = true then run E rs n false (.c (p ++ [0]) x :: k) s else run E rs n false (.c (p ++ [1]) y :: k) s
    | _ => none
   | .region id ops d => MR E id first todo s <| match d with
    | false => nP E ops ops.toList s fun s => run E rs n false k s
    | true => match lk id E.od with
     | some l => match inOrder ops l with
      | some os => nP E ops os s fun s => run E rs n false k s
      | none => none
     | none => none
   | _ => none
end Go.Proofs.YtafikkmnkeddpaaGreatDoor.E
namespace Go.Proofs.YtafikkmnkeddpaaGreatDoor.E
open Go.RowKit Go.Proofs.YtafikkmnkeddpaaGreatDoorW.PrintWords Go.Proofs.YtafikkmnkeddpaaGreatDoorW.PrintLast Go.Proofs.YtafikkmnkeddpaaGreatDoorW.PrintMore
def g0 : Nat → Value := fun _ => undef
def no0 : Nat → Prop := fun _ => False
def uJ (P : Program) (f : Field) : Option (Nat × Nat × Bool) :=
 match P.info? f.type, P.underlying f.type with
 | some i, some (.struct _) => some (f.offset, i.size, true)
 | some i, some (.array _ _) => none
 | some i, some _ => some (f.offset, i.size, false)
 | _, _ => none
def ng (P : Program) (t : TypeId) : TI → Prop
 | .int k => P.underlying t = some (.int k) ∧ (P.info? t).map (fun i => (i.zero, i.size)) = some (some (.int k 0), 1)
 | .bool => P.underlying t = some .bool ∧ (P.info? t).map (fun i => (i.zero, i.size)) = some (some (.bool false), 1)
 | .str => P.underlying t = some .string ∧ (P.info? t).map (fun i => (i.zero, i.size)) = some (some (.string ⟨#[]⟩), 1)
 | .sl e k b => P.underlying t = some (.slice e) ∧ (P.info? t).map (fun i => (i.zero, i.size)) = some (some (.slice none 0 0), 1) ∧ (P.info? e).map (fun i => (i.zero, i.size, i.bytes)) = some (some (.int k 0), 1, b) ∧ P.underlying e = some (.int k) ∧ 0 < b
 | .st zs fs => ∃ F, P.underlying t = some (.struct F) ∧ (P.info? t).map (fun i => (i.zero, i.size)) = some (some (.agg ⟨zs.map Z.val⟩), zs.length) ∧ F.toList.map (uJ P) = fs.map some
def kL (P : Program) : List (TypeId × TI) → Prop
 | [] => True
 | p :: r => ng P p.1 p.2 ∧ kL P r
theorem kL.at_ {P : Program} {ty : List (TypeId × TI)} (h : kL P ty) {t : TypeId} {i : TI} (hl : lk t ty = some i) : ng P t i := by
 induction ty with
 | nil => simp [lk] at hl
 | cons p r ih =>
  unfold lk at hl
  split at hl
  ·rename_i hb
   obtain rfl := Option.some.inj hl
   rw [← Nat.eq_of_beq_eq_true hb]
   exact h.1
  ·exact ih h.2 hl
theorem Z.vr {B : Nat} {w : World} {O D : Nat → Prop} {g : Nat → Value} (z : Z) : VR B w O D g z.av z.val := by
 cases z with
 | v x => exact .v x
 | s k => exact .ro true k [] none 0 ⟨Nat.le_refl _, by simp, fun h => absurd h (by simp)⟩
theorem JK {B : Nat} {w : World} {O D : Nat → Prop} {g : Nat → Value} (zs : List Z) : VRs B w O D g (zs.map Z.av) (zs.map Z.val) := by
 induction zs with
 | nil => exact .nil
 | cons z r ih => exact .cons _ _ _ _ (Z.vr z) ih
theorem JL {B : Nat} {w : World} {O D : Nat → Prop} {g : Nat → Value} (f : Bool) (k : IntKind) : VR B w O D g (.ro f k []) (.slice none 0 0) :=
 .ro f k [] none 0 ⟨Nat.le_refl _, by simp, fun h => absurd h (by simp)⟩
def jR (P : Program) (G : World → Prop) (f : FuncId) (app : List AV → (AV → Option AV) → Option AV) : Prop :=
 (∃ fn, P.funcs[f]? = some fn ∧ (fn.name == "runtime.NumGoroutine") = false ∧ fn.body.isNone = false) ∧
 ∀ (l : List AV) (args : List Value) (w : World) (O : Nat → Prop) (K : AV → Option AV) (r : AV), G w → (∀ b, O b → b < w.heap.size) → VRs w.heap.size w O no0 g0 l args → app l K = some r →
  ∃ x, K x = some r ∧ Calls P f ⟨args⟩ w fun e w' => ∃ v, e = .returned v ∧ VR w.heap.size w' O no0 g0 x v ∧ Below w.heap.size w w'
inductive K3 where
 | y
 | m
 | w
def yS : Op → K3
 | .alloc _ | .box _ _ | .buildSlice _ _ _ | .makeSlice _ _ _ => .m
 | .store _ _ _ => .w
 | .call { callee := .builtin .append, .. } | .call { callee := .builtin .copy, .. } => .w
 | .call { callee := .value _, .. } => .m
 | _ => .y
section
variable {P : Program} {E : Env} {o : Oper} {s : St} {a : Act} {w0 w : World} {O0 : Nat → Prop} {nt : Nat} {g : Nat → Value} {K : St → Option AV} {r : AV}
def Yld (P : Program) (o : Oper) (a : Act) (w : World) (v : Value) : Prop := ∀ w', Below w.heap.size w w' → (execOp a.eval o).run P w' = .ok (.value v) w'
def Does (P : Program) (w0 : World) (O0 : Nat → Prop) (nt : Nat) (o : Oper) (a : Act) (w : World) (s' : St) : Prop :=
 match yS o.op with
 | .y => ∃ v g', Yld P o a w v ∧ Sim w0 O0 nt s' (a.put o.dst v) w g'
 | .m => o.wp P a w (fun a' w' => Below w.heap.size w w' ∧ ∃ g', Sim w0 O0 nt s' a' w' g') (fun _ _ _ => False)
 | .w => o.wp P a w (fun a' w' => ∃ g', Sim w0 O0 nt s' a' w' g') (fun _ _ _ => False)
theorem uU (hS : Sim w0 O0 nt s a w g) (hn : E.nt = nt) {d : Option Tmp} {x : AV} {v : Value} (hx : VR w0.heap.size w (Wet O0 s.h g) (Dom s.h) g x v) (h : lY E d x s K = some r) : ∃ s', K s' = some r ∧ Sim w0 O0 nt s' (a.put d v) w g := by
 unfold lY at h
 split at h
 ·exact ⟨s, h, hS.yM v⟩
 ·split at h
  ·rename_i hb
   have h9 := Nat.le_of_ble_eq_true hb
   exact ⟨_, h, hS.put (by omega) hx⟩
  ·cases h
theorem jO (hk : yS o.op = .y) (hS : Sim w0 O0 nt s a w g) (hn : E.nt = nt) {x : AV} {v : Value} (hy : Yld P o a w v) (hx : VR w0.heap.size w (Wet O0 s.h g) (Dom s.h) g x v) (h : lY E o.dst x s K = some r) : ∃ s', K s' = some r ∧ Does P w0 O0 nt o a w s' := by
 obtain ⟨s', h1, h2⟩ := uU hS hn hx h
 exact ⟨s', h1, by unfold Does; rw [hk]; exact ⟨v, g, hy, h2⟩⟩
theorem jV (hS : Sim w0 O0 nt s a w g) {x : Operand} {y : AV} (h : evA s x = some y) : VR w0.heap.size w (Wet O0 s.h g) (Dom s.h) g y (a.eval x) := by
 cases x with
 | tmp t => exact hS.tm t y h
 | const v => obtain rfl := Option.some.inj h; exact .v _
 | func f => obtain rfl := Option.some.inj h; exact .v _
 | global n => cases h
theorem qF {B : Nat} {O D : Nat → Prop} {x : AV} {v : Value} (t : TypeId) (h : VR B w O D g x v) : VR B w O D g (rZ E t x) v := by
 unfold rZ
 split
 ·split
  ·cases h; exact JL _ _
  ·exact h
 ·exact h
theorem AZ (k : IntKind) (n : Int) : wr k n = k.wrap n := by
 cases k with
 | i64 => unfold wr wrap64; exact (IntKind.wrap_i64 n).symm
 | u8 => simp [wr, IntKind.wrap, IntKind.bits, IntKind.signed]
 | _ => rfl
theorem tZ {k k' : IntKind} (h : Ae k k' = true) : k = k' := by cases k <;> cases k' <;> first | rfl | cases h
theorem iY {B : Nat} {O D : Nat → Prop} {x v : Value} (h : VR B w O D g (.v x) v) : v = x := by cases h; rfl
theorem GV {x : Operand} (ho : o.op = .move x ∨ o.op = .assign x) (hS : Sim w0 O0 nt s a w g) (hn : E.nt = nt) (h : exec E o s K = some r) : ∃ s', K s' = some r ∧ Does P w0 O0 nt o a w s' := by
 rcases ho with ho | ho <;>
 ·unfold exec at h
  rw [ho] at h
  dsimp only at h
  split at h
  ·rename_i y hy
   exact jO (by rw [ho]; rfl) hS hn (v := a.eval x) (fun w' _ => by simp [execOp, ho]) (jV hS hy) h
  ·cases h
theorem MS {c x y : Operand} (ho : o.op = .pick c x y) (hS : Sim w0 O0 nt s a w g) (hn : E.nt = nt) (h : exec E o s K = some r) : ∃ s', K s' = some r ∧ Does P w0 O0 nt o a w s' := by
 unfold exec at h
 rw [ho] at h
 dsimp only at h
 split at h
 ·rename_i p hp
  have hc := iY (jV hS hp)
  split at h
  ·rename_i ht
   split at h
   ·rename_i z hz
    exact jO (by rw [ho]; rfl) hS hn (v := a.eval x) (fun w' _ => by simp [execOp, ho, hc, ht, asBool]) (jV hS hz) h
   ·cases h
  ·rename_i ht
   split at h
   ·rename_i z hz
    exact jO (by rw [ho]; rfl) hS hn (v := a.eval y) (fun w' _ => by simp [execOp, ho, hc, ht, asBool]) (jV hS hz) h
   ·cases h
 ·cases h
theorem JM {op : BinOp} {t t' : TypeId} {x y : Operand} (hT : kL P E.ty) (ho : o.op = .binOp op t x y t') (hS : Sim w0 O0 nt s a w g) (hn : E.nt = nt) (h : exec E o s K = some r) : ∃ s', K s' = some r ∧ Does P w0 O0 nt o a w s' := by
 unfold exec at h
 rw [ho] at h
 dsimp only at h
 split at h
 ·rename_i b1 b2 hax hay
  have ex := iY (jV hS hax)
  have ey := iY (jV hS hay)
  have eg : ∀ w' : World, (eqGuard op t x y (a.eval x) (a.eval y)).run P w' = .ok () w' := fun w' => by rw [ex, eqGuard_at_bool]; rfl
  have eb : ∀ (hb : P.underlying t = some .bool) (w' : World), (Op.equal t (a.eval x) (a.eval y)).run P w' = .ok (b1 == b2) w' := fun hb w' => by rw [ex, ey]; exact run_equal_bool w' t b1 b2 hb
  split at h
  ·rename_i hl
   have hu := (hT.at_ hl).1
   refine jO (by rw [ho]; rfl) hS hn (v := .bool (b1 == b2)) (fun w' _ => ?_) (.v _) h
   have e1 : (binOp .eql t (a.eval x) (a.eval y)).run P w' = .ok (.bool (b1 == b2)) w' := by
    have := eb hu w'
    rw [ex, ey] at this
    rw [ex, ey]
    simp [binOp, this]
   simp only [execOp, ho, Sem.run_bind, e1, eg, Result.andThen_ok, Sem.run_pure]
  ·rename_i hl
   have hu := (hT.at_ hl).1
   refine jO (by rw [ho]; rfl) hS hn (v := .bool (b1 != b2)) (fun w' _ => ?_) (.v _) h
   have e1 : (binOp .neq t (a.eval x) (a.eval y)).run P w' = .ok (.bool (b1 != b2)) w' := by
    have := eb hu w'
    rw [ex, ey] at this
    rw [ex, ey]
    simp [binOp, this, bne]
   simp only [execOp, ho, Sem.run_bind, e1, eg, Result.andThen_ok, Sem.run_pure]
  ·cases h
 ·rename_i ax ay hnb hax hay
  clear hnb
  have hx := jV hS hax
  have hy := jV hS hay
  have done : ∀ z : Value, (∀ w' : World, (binOp op t (a.eval x) (a.eval y)).run P w' = .ok z w') → (∀ w' : World, (eqGuard op t x y (a.eval x) (a.eval y)).run P w' = .ok () w') → lY E o.dst (.v z) s K = some r → ∃ s', K s' = some r ∧ Does P w0 O0 nt o a w s' := fun z h1 h2 h3 =>
   jO (by rw [ho]; rfl) hS hn (v := z) (fun w' _ => by simp only [execOp, ho, Sem.run_bind, h1, h2, Result.andThen_ok, Sem.run_pure]) (.v z) h3
  unfold Qr at h
  split at h
  ·
   rename_i _ _ k m k' n
   have ex := iY hx
   have ey := iY hy
   have eg : ∀ w' : World, (eqGuard op t x y (a.eval x) (a.eval y)).run P w' = .ok () w' := fun w' => by rw [ex, eqGuard_at_int]; rfl
   rw [ex, ey] at done
   rw [ex, ey] at eg
   split at h
   ·split at h
    ·rename_i h0
     exact done _ (fun w' => by simp [binOp, Op.shift, shl, Int.not_lt.2 h0]) eg h
    ·cases h
   ·split at h
    ·rename_i h0
     refine done _ (fun w' => ?_) eg h
     simp only [binOp, Op.shift, shr, if_neg (Int.not_lt.2 h0)]
     rw [show Int.fdiv m (2 ^ min n.toNat k.bits) = m / 2 ^ min n.toNat k.bits from Int.fdiv_eq_ediv_of_nonneg _ (Int.le_of_lt (Int.pow_pos (by decide)))]
     rfl
    ·cases h
   ·split at h
    ·cases h
    ·rename_i hk
     obtain rfl := tZ hk
     split at h
     ·exact done _ (fun w' => by rw [AZ]; simp [binOp, Op.intArith]) eg h
     ·exact done _ (fun w' => by rw [AZ]; simp [binOp, Op.intArith]) eg h
     ·exact done _ (fun w' => by rw [AZ]; simp [binOp, Op.intArith]) eg h
     ·split at h
      ·cases h
      ·rename_i h0; exact done _ (fun w' => by rw [AZ]; simp [binOp, Op.intDiv, h0]) eg h
     ·split at h
      ·cases h
      ·rename_i h0; exact done _ (fun w' => by simp [binOp, Op.intDiv, h0]) eg h
     ·exact done _ (fun w' => by simp [binOp, Op.intBits, Go.bits]) eg h
     ·exact done _ (fun w' => by simp [binOp, Op.intBits, Go.bits]) eg h
     ·exact done _ (fun w' => by simp [binOp, Op.intBits, Go.bits]) eg h
     ·exact done _ (fun w' => by simp [binOp, Op.intBits, Go.bits]) eg h
     ·exact done _ (fun w' => by simp [binOp, Op.intCmp]) eg h
     ·exact done _ (fun w' => by simp [binOp, Op.intCmp]) eg h
     ·exact done _ (fun w' => by simp [binOp, Op.intCmp]) eg h
     ·exact done _ (fun w' => by simp [binOp, Op.intCmp]) eg h
     ·exact done _ (fun w' => by simp [binOp, Op.intCmp]) eg h
     ·exact done _ (fun w' => by simp [binOp, Op.intCmp]) eg h
     ·cases h
  ·rename_i _ _ m n
   have ex := iY hx
   have ey := iY hy
   have eg : ∀ w' : World, (eqGuard op t x y (a.eval x) (a.eval y)).run P w' = .ok () w' := fun w' => by rw [ex, eqGuard_at_string]; rfl
   rw [ex, ey] at done
   rw [ex, ey] at eg
   split at h
   ·split at h
    ·rename_i h0
     refine done _ (fun w' => ?_) eg h
     simp only [binOp, Op.stringOp]
     rw [if_neg (by simp [IntKind.max, IntKind.signed, IntKind.bits]; omega)]
     rfl
    ·cases h
   ·exact done _ (fun w' => by simp [binOp, Op.stringOp]) eg h
   ·exact done _ (fun w' => by simp [binOp, Op.stringOp, bne]) eg h
   ·cases h
  ·cases h
 ·cases h
end
end Go.Proofs.YtafikkmnkeddpaaGreatDoor.E
namespace Go.Proofs.YtafikkmnkeddpaaGreatDoor.E
open Go.RowKit Go.Proofs.YtafikkmnkeddpaaGreatDoorW.PrintWords Go.Proofs.YtafikkmnkeddpaaGreatDoorW.PrintLast Go.Proofs.YtafikkmnkeddpaaGreatDoorW.PrintMore
section
variable {P : Program} {E : Env} {o : Oper} {s : St} {a : Act} {w0 w : World} {O0 : Nat → Prop} {nt : Nat} {g : Nat → Value} {K : St → Option AV} {r : AV}
def BO : TypeDesc → Bool
 | .struct _ | .array _ _ => false
 | _ => true
theorem oV {t : TypeId} {z : Option Value} {n : Nat} (h : (P.info? t).map (fun i => (i.zero, i.size)) = some (z, n)) : ∃ i, P.info? t = some i ∧ i.zero = z ∧ i.size = n := by
 obtain ⟨i, hi, he⟩ := Option.map_eq_some_iff.1 h
 simp only [Prod.mk.injEq] at he
 exact ⟨i, hi, he.1, he.2⟩
theorem yT {t : TypeId} {d : TypeDesc} (h : P.underlying t = some d) (hd : BO d = true) (w : World) : (isAgg t).run P w = .ok false w := by
 simp only [isAgg, Sem.run_bind, run_underlying h, Result.andThen_ok]
 cases d <;> first | (cases hd; done) | rfl
theorem yU {t : TypeId} {F : Array Field} (h : P.underlying t = some (.struct F)) (w : World) : (isAgg t).run P w = .ok true w := by
 simp [isAgg, run_underlying h]
theorem ng.one {t : TypeId} {i : TI} (h : ng P t i) (hi : ∀ zs fs, i ≠ .st zs fs) : ∃ d, P.underlying t = some d ∧ BO d = true ∧ ∃ (x : TypeInfo) (z : Z), P.info? t = some x ∧ i.zero = [z.av] ∧ x.zero = some z.val ∧ x.size = 1 ∧ fit z.av = true := by
 cases i with
 | int k => obtain ⟨h1, h2⟩ := h; obtain ⟨x, hx, h3, h4⟩ := oV h2; exact ⟨_, h1, rfl, x, .v (.int k 0), hx, rfl, h3, h4, rfl⟩
 | bool => obtain ⟨h1, h2⟩ := h; obtain ⟨x, hx, h3, h4⟩ := oV h2; exact ⟨_, h1, rfl, x, .v (.bool false), hx, rfl, h3, h4, rfl⟩
 | str => obtain ⟨h1, h2⟩ := h; obtain ⟨x, hx, h3, h4⟩ := oV h2; exact ⟨_, h1, rfl, x, .v (.string ⟨#[]⟩), hx, rfl, h3, h4, rfl⟩
 | sl e k b => obtain ⟨h1, h2, _⟩ := h; obtain ⟨x, hx, h3, h4⟩ := oV h2; exact ⟨_, h1, rfl, x, .s k, hx, rfl, h3, h4, rfl⟩
 | st zs fs => exact absurd rfl (hi zs fs)
theorem oW {t : TypeId} {d : TypeDesc} (h : P.underlying t = some d) (hd : BO d = true) {w : World} {ad : Addr} {v : Value} (hc : w.cell? ad = some v) : (loadVar t ad).run P w = .ok v w := by
 simp [loadVar, yT h hd, hc]
theorem uV {t : TypeId} {F : Array Field} (h : P.underlying t = some (.struct F)) {i : TypeInfo} (hi : P.info? t = some i) {w : World} {ad : Addr} {cs : List Value} (hn : i.size = cs.length) (hc : ∀ j v, cs[j]? = some v → w.cell? (ad.add j) = some v) : (loadVar t ad).run P w = .ok (.agg ⟨cs⟩) w := by
 have h2 : (sizeOf t).run P w = .ok cs.length w := by rw [run_sizeOf w hi]; simp [Program.cellsOf, hi, hn]
 simp [loadVar, yU h, h2, run_loadCells_list (P := P) (w := w) ad cs hc]
theorem cells_at {w : World} {b : Nat} {vs : List Value} {ty : TypeId} {fr : Nat × Nat} (h : w.heap[b]? = some (.cells ⟨vs⟩ ty fr)) (off : Nat) : w.cell? ⟨b, off, none⟩ = vs[off]? := by
 simp [World.cell?, h]
theorem r_ {w w' : World} (hB : Below w.heap.size w w') {b : Nat} {x : Obj} (h : w.heap[b]? = some x) : w'.heap[b]? = some x := by
 rw [hB.block b (Array.getElem?_eq_some_iff.1 h).1]; exact h
theorem MV {op : UnOp} {t : TypeId} {x : Operand} (ho : o.op = .unOp op t x) (hS : Sim w0 O0 nt s a w g) (hn : E.nt = nt) (h : exec E o s K = some r) : ∃ s', K s' = some r ∧ Does P w0 O0 nt o a w s' := by
 unfold exec at h
 rw [ho] at h
 dsimp only at h
 split at h
 ·rename_i ax hax
  have hx := jV hS hax
  unfold aun at h
  split at h
  ·rename_i k m
   have ex := iY hx
   exact jO (by rw [ho]; rfl) hS hn (v := .int k (wr k (-m))) (fun w' _ => by rw [AZ]; simp [execOp, ho, ex, Op.unary, Op.intArith]) (.v _) h
  ·have ex := iY hx
   exact jO (by rw [ho]; rfl) hS hn (fun w' _ => by simp [execOp, ho, ex, Op.unary]) (.v _) h
  ·cases h
 ·cases h
theorem EY {x : Operand} {i : Nat} (ho : o.op = .extract x i) (hS : Sim w0 O0 nt s a w g) (hn : E.nt = nt) (h : exec E o s K = some r) : ∃ s', K s' = some r ∧ Does P w0 O0 nt o a w s' := by
 unfold exec at h
 rw [ho] at h
 dsimp only at h
 split at h
 ·rename_i l hax
  have hx := jV hS hax
  split at h
  ·rename_i y hy
   generalize hv : a.eval x = v at hx
   cases hx with
   | tup _ vs hs =>
    obtain ⟨z, hz, hr⟩ := hs.get hy
    exact jO (by rw [ho]; rfl) hS hn (v := z) (fun w' _ => by simp [execOp, ho, hv, Instr.extract, hz]) hr h
  ·cases h
 ·cases h
theorem wE {F : Array Field} {fs : List (Nat × Nat × Bool)} (h : F.toList.map (uJ P) = fs.map some) {f : Nat} {x : Nat × Nat × Bool} (hf : fs[f]? = some x) : ∃ q, F[f]? = some q ∧ uJ P q = some x := by
 have h1 : (F.toList.map (uJ P))[f]? = some (some x) := by rw [h]; simp [hf]
 rw [List.getElem?_map] at h1
 obtain ⟨q, hq, he⟩ := Option.map_eq_some_iff.1 h1
 exact ⟨q, by simpa using hq, he⟩
theorem qh {q : Field} {o' n : Nat} {b : Bool} (h : uJ P q = some (o', n, b)) : ∃ i d, P.info? q.type = some i ∧ P.underlying q.type = some d ∧ q.offset = o' ∧ i.size = n ∧ ((b = true ∧ ∃ F, d = .struct F) ∨ (b = false ∧ BO d = true)) := by
 unfold uJ at h
 split at h
 ·rename_i i F hi hu
  simp only [Option.some.injEq, Prod.mk.injEq] at h
  exact ⟨i, _, hi, hu, h.1, h.2.1, .inl ⟨h.2.2.symm, F, rfl⟩⟩
 ·cases h
 ·rename_i i d hn1 hn2 hi hu
  simp only [Option.some.injEq, Prod.mk.injEq] at h
  refine ⟨i, d, hi, hu, h.1, h.2.1, .inr ⟨h.2.2.symm, ?_⟩⟩
  cases d <;> first | rfl | exact absurd rfl (hn1 _) | exact absurd rfl (hn2 _ _)
 ·cases h
theorem JO {t : TypeId} {x : Operand} {f : Nat} (ho : o.op = .field t x f) (hT : kL P E.ty) (hS : Sim w0 O0 nt s a w g) (hn : E.nt = nt) (h : exec E o s K = some r) : ∃ s', K s' = some r ∧ Does P w0 O0 nt o a w s' := by
 unfold exec at h
 rw [ho] at h
 dsimp only at h
 split at h
 ·rename_i l zs fs hax hty
  have hx := jV hS hax
  obtain ⟨F, hu, hinfo, hF⟩ := hT.at_ hty
  generalize hv : a.eval x = v at hx
  cases hx with
  | agg _ vs hs =>
   split at h
   ·rename_i o' n hf
    obtain ⟨q, hq, hd⟩ := wE hF hf
    obtain ⟨i, d, hi, hu2, hoff, hsz, hb⟩ := qh hd
    obtain ⟨_, F2, rfl⟩ := hb.resolve_right (by simp)
    split at h
    ·rename_i hle
     have hle := Nat.le_of_ble_eq_true hle
     refine jO (by rw [ho]; rfl) hS hn (v := .agg ⟨(vs.drop o').take n⟩) (fun w' _ => ?_) (.agg _ _ ((hs.drop _).take _)) h
     simp [execOp, ho, hv, Instr.field, run_underlying hu, hq, part, yU hu2, asAgg, run_sizeOf _ hi, Program.cellsOf, hi, hsz, hoff, List.extract_eq_take_drop]
    ·cases h
   ·rename_i o' n hf
    obtain ⟨q, hq, hd⟩ := wE hF hf
    obtain ⟨i, d, hi, hu2, hoff, hsz, hb⟩ := qh hd
    have hd2 := (hb.resolve_left (by simp)).2
    split at h
    ·rename_i y hy
     obtain ⟨z, hz, hr⟩ := hs.get hy
     refine jO (by rw [ho]; rfl) hS hn (v := z) (fun w' _ => ?_) hr h
     simp [execOp, ho, hv, Instr.field, run_underlying hu, hq, part, yT hu2 hd2, asAgg, hoff, hz]
    ·cases h
   ·cases h
 ·cases h
theorem BP {t : TypeId} {x : Operand} {f : Nat} (ho : o.op = .fieldAddr t x f) (hT : kL P E.ty) (hS : Sim w0 O0 nt s a w g) (hn : E.nt = nt) (h : exec E o s K = some r) : ∃ s', K s' = some r ∧ Does P w0 O0 nt o a w s' := by
 unfold exec at h
 rw [ho] at h
 dsimp only at h
 split at h
 ·rename_i n off zs fs hax hty
  have hx := jV hS hax
  obtain ⟨F, hu, hinfo, hF⟩ := hT.at_ hty
  generalize hv : a.eval x = v at hx
  cases hx with
  | ptr _ _ b hd hg =>
   split at h
   ·rename_i o' n' b' hf
    obtain ⟨q, hq, hd2⟩ := wE hF hf
    obtain ⟨i, d, hi, hu2, hoff, hsz, hb⟩ := qh hd2
    split at h
    ·rename_i h0
     have h0 := Nat.le_of_ble_eq_true h0
     refine jO (by rw [ho]; rfl) hS hn (v := .pointer (some ⟨b, off + o', none⟩)) (fun w' _ => ?_) (.ptr _ _ b hd hg) h
     have h1 : i.size ≠ 0 := by omega
     simp [execOp, ho, hv, Instr.fieldAt, Instr.sureAddr, run_underlying hu, hq, hoff, fieldPlace, run_sizeOf _ hi, Program.cellsOf, hi, h1, Addr.add_lit]
    ·cases h
   ·cases h
 ·cases h
theorem MW {t : TypeId} {x : Operand} (ho : o.op = .load t x) (hT : kL P E.ty) (hS : Sim w0 O0 nt s a w g) (hn : E.nt = nt) (h : exec E o s K = some r) : ∃ s', K s' = some r ∧ Does P w0 O0 nt o a w s' := by
 unfold exec at h
 rw [ho] at h
 dsimp only at h
 split at h
 ·rename_i n off hax
  have hx := jV hS hax
  generalize hv : a.eval x = v at hx
  cases hx with
  | ptr _ _ b hd hg =>
   split at h
   ·rename_i l zs fs hl hty
    obtain ⟨F, hu, hinfo, hF⟩ := hT.at_ hty
    obtain ⟨i, hi, hz, hsz⟩ := oV hinfo
    obtain ⟨b2, vs, ty, hg2, hB, hh, hr⟩ := hS.hp n _ hl
    rw [hg] at hg2
    obtain rfl : b = b2 := by injection hg2 with e; injection e with e; injection e
    split at h
    ·rename_i hle
     have hle := Nat.le_of_ble_eq_true hle
     refine jO (by rw [ho]; rfl) hS hn (v := .agg ⟨(vs.drop off).take zs.length⟩) (fun w' hw' => ?_) (.agg _ _ ((hr.drop _).take _)) h
     have hh' := r_ hw' hh
     have := uV (P := P) hu hi (w := w') (ad := ⟨b, off, none⟩) (cs := (vs.drop off).take zs.length) (by rw [hsz]; simp [← hr.length]; omega) (fun j v hj => by
      rw [Addr.add_lit, cells_at hh']
      rw [List.getElem?_take] at hj
      split at hj
      ·rw [List.getElem?_drop] at hj; exact hj
      ·cases hj)
     simp [execOp, ho, hv, Instr.loadAt, Instr.sureAddr, this]
    ·cases h
   ·rename_i l ti hnot hl hty
    obtain ⟨d, hu, hd2, i, z, hi, _⟩ := (hT.at_ hty).one (fun zs fs e => hnot zs fs e)
    obtain ⟨b2, vs, ty, hg2, hB, hh, hr⟩ := hS.hp n _ hl
    rw [hg] at hg2
    obtain rfl : b = b2 := by injection hg2 with e; injection e with e; injection e
    split at h
    ·rename_i y hy
     obtain ⟨z, hz, hrz⟩ := hr.get hy
     refine jO (by rw [ho]; rfl) hS hn (v := z) (fun w' hw' => ?_) hrz h
     have := oW (P := P) hu hd2 (w := w') (ad := ⟨b, off, none⟩) (v := z) (by rw [cells_at (r_ hw' hh)]; exact hz)
     simp [execOp, ho, hv, Instr.loadAt, Instr.sureAddr, this]
    ·cases h
   ·cases h
 ·rename_i n i hax
  have hx := jV hS hax
  generalize hv : a.eval x = v at hx
  cases hx with
  | ept _ _ b l c hd hg hl =>
   split at h
   ·rename_i k e xs k2 hb hty
    obtain ⟨d, hu, hd2, _⟩ := (hT.at_ hty).one (fun zs fs e => by cases e)
    have hrow : w.ownsRow w0.heap.size e 1 (g n) xs.length (nums k xs) := hS.hp n _ hb
    rw [hg] at hrow
    obtain ⟨hlen, hrow⟩ := hrow
    obtain ⟨b2, cap, cur, he, hB, hh, hcap, _, hsz, htk⟩ := hrow.resolve_left (fun e => by cases e.1)
    injection he with he1 he2 he3
    injection he1 with he1
    injection he1 with he1
    subst he1
    subst he2
    have hc : cur[i.toNat]? = some (.int k (rd xs i)) := by
     have h1 : (nums k xs)[i.toNat]? = some (.int k (rd xs i)) := by
      unfold nums rd
      rw [List.getElem?_map, List.getElem?_eq_getElem hl, List.getD_eq_getElem?_getD, List.getElem?_eq_getElem hl]
      rfl
     rw [← htk, List.getElem?_take] at h1
     split at h1
     ·simpa using h1
     ·cases h1
    refine jO (by rw [ho]; rfl) hS hn (v := .int k (rd xs i)) (fun w' hw' => ?_) (.v _) h
    have := oW (P := P) hu hd2 (w := w') (ad := ⟨b, i.toNat, none⟩) (v := .int k (rd xs i)) (by rw [cells_at (vs := cur.toList) (r_ hw' hh)]; simpa using hc)
    simp [execOp, ho, hv, Instr.loadAt, Instr.sureAddr, this]
   ·cases h
 ·rename_i y hax
  have hx := jV hS hax
  generalize hv : a.eval x = v at hx
  cases hx with
  | rpt _ b off hlt hno hc =>
   split at h
   ·rename_i k2 hty
    obtain ⟨d, hu, hd2, _⟩ := (hT.at_ hty).one (fun zs fs e => by cases e)
    refine jO (by rw [ho]; rfl) hS hn (v := y) (fun w' hw' => ?_) (.v _) h
    have := oW (P := P) hu hd2 (w := w') (ad := ⟨b, off, none⟩) (v := y) (by rw [tY (hw'.block b hlt)]; exact hc)
    simp [execOp, ho, hv, Instr.loadAt, Instr.sureAddr, this]
   ·cases h
 ·cases h
theorem JQ {t : TypeId} {x i : Operand} (ho : o.op = .index t x i) (hT : kL P E.ty) (hS : Sim w0 O0 nt s a w g) (hn : E.nt = nt) (h : exec E o s K = some r) : ∃ s', K s' = some r ∧ Does P w0 O0 nt o a w s' := by
 unfold exec at h
 rw [ho] at h
 dsimp only at h
 split at h
 ·rename_i b k n hax hai hty
  have ex := iY (jV hS hax)
  have ei := iY (jV hS hai)
  obtain ⟨hu, _⟩ := hT.at_ hty
  split at h
  ·rename_i h0
   split at h
   ·rename_i h1
    have hlt : n.toNat < b.size := by omega
    refine jO (by rw [ho]; rfl) hS hn (v := .int .u8 (bt b n)) (fun w' _ => ?_) (.v _) h
    have hb : b[n.toNat]? = some b[n.toNat] := getElem?_pos b n.toNat hlt
    simp [execOp, ho, ex, ei, Instr.index, asIntOf, run_underlying hu, h0, hb, bt, hlt]
   ·cases h
  ·cases h
 ·cases h
theorem uX {t e : TypeId} {x i : Operand} {k : IntKind} {n : Int} {A : Addr} {l c : Nat} {w' : World} (ho : o.op = .indexAddr t x i) (hu : P.underlying t = some (.slice e)) {ti : TypeInfo} (hi : P.info? e = some ti) (hs : ti.size = 1) (ex : a.eval x = .slice (some A) l c) (ei : a.eval i = .int k n) (h0 : 0 ≤ n) (h1 : n < (l : Int)) :
  (execOp a.eval o).run P w' = .ok (.value (.pointer (some (A.add n.toNat)))) w' := by
 simp [execOp, ho, ex, ei, Instr.indexAt, asIntOf, run_underlying hu, h0, h1, run_sizeOf _ hi, Program.cellsOf, hi, hs]
theorem BQ {t : TypeId} {x i : Operand} (ho : o.op = .indexAddr t x i) (hT : kL P E.ty) (hS : Sim w0 O0 nt s a w g) (hn : E.nt = nt) (h : exec E o s K = some r) : ∃ s', K s' = some r ∧ Does P w0 O0 nt o a w s' := by
 unfold exec at h
 rw [ho] at h
 dsimp only at h
 split at h
 ·rename_i f k xs k2 n e2 k3 b3 hax hai hty
  have hx := jV hS hax
  have ei := iY (jV hS hai)
  obtain ⟨hu, _, hinfo, _⟩ := hT.at_ hty
  obtain ⟨ti, hti, hz⟩ := Option.map_eq_some_iff.1 hinfo
  simp only [Prod.mk.injEq] at hz
  generalize hv : a.eval x = v at hx
  cases hx with
  | ro _ _ _ A cap hr =>
   split at h
   ·rename_i h0
    split at h
    ·rename_i h1
     have hlt : n.toNat < xs.length := by omega
     obtain ⟨b, off, rfl, hb, hno, _, hc⟩ := hr.at_ (by omega)
     refine jO (by rw [ho]; rfl) hS hn (v := .pointer (some ⟨b, off + n.toNat, none⟩)) (fun w' _ => ?_) (.rpt _ b _ hb hno (hc _ hlt)) h
     rw [uX (P := P) ho hu hti hz.2.1 hv ei h0 h1, Addr.add_lit]
    ·cases h
   ·cases h
 ·rename_i m k2 n e2 k3 b3 hax hai hty
  have hx := jV hS hax
  have ei := iY (jV hS hai)
  obtain ⟨hu, _, hinfo, _⟩ := hT.at_ hty
  obtain ⟨ti, hti, hz⟩ := Option.map_eq_some_iff.1 hinfo
  simp only [Prod.mk.injEq] at hz
  split at h
  ·rename_i k e xs hb
   split at h
   ·rename_i h0
    split at h
    ·rename_i h1
     generalize hv : a.eval x = v at hx
     cases hx with
     | own _ hd =>
      have hrow : w.ownsRow w0.heap.size e 1 (g m) xs.length (nums k xs) := hS.hp m _ hb
      obtain ⟨b2, cap, cur, he, _⟩ := hrow.2.resolve_left (fun e => by omega)
      rw [he] at hv
      refine jO (by rw [ho]; rfl) hS hn (v := .pointer (some ⟨b2, n.toNat, none⟩)) (fun w' _ => ?_) (.ept _ _ b2 _ _ hd he (by omega)) h
      rw [uX (P := P) ho hu hti hz.2.1 hv ei h0 h1, Addr.add_lit, Nat.zero_add]
    ·cases h
   ·cases h
  ·cases h
 ·cases h
end
end Go.Proofs.YtafikkmnkeddpaaGreatDoor.E
namespace Go.Proofs.YtafikkmnkeddpaaGreatDoor.E
open Go.RowKit Go.Proofs.YtafikkmnkeddpaaGreatDoorW.PrintWords Go.Proofs.YtafikkmnkeddpaaGreatDoorW.PrintLast Go.Proofs.YtafikkmnkeddpaaGreatDoorW.PrintMore
section
variable {P : Program} {E : Env} {o : Oper} {s : St} {a : Act} {w0 w : World} {O0 : Nat → Prop} {nt : Nat} {g : Nat → Value} {K : St → Option AV} {r : AV}
theorem Roo.reads {B : Nat} {O : Nat → Prop} {f : Bool} {k : IntKind} {xs : List Int} {A : Option Addr} {c : Nat} (h : Roo B w O f k xs A c) : lN w k A xs.length xs :=
 ⟨rfl, h.mx, fun hp => by
  obtain ⟨b, off, rfl, _, _, _, hc⟩ := h.at_ hp
  exact ⟨_, rfl, fun j hj => by rw [Addr.add_lit]; exact hc j hj⟩⟩
theorem BR (hS : Sim w0 O0 nt s a w g) {x : AV} {v : Value} (hx : VR w0.heap.size w (Wet O0 s.h g) (Dom s.h) g x v) {f : Bool} {k : IntKind} {xs : List Int} (h : rowOf s x = some (f, k, xs)) : ∃ A c, v = .slice A xs.length c ∧ lN w k A xs.length xs := by
 unfold rowOf at h
 split at h
 ·simp only [Option.some.injEq, Prod.mk.injEq] at h
  obtain ⟨rfl, rfl, rfl⟩ := h
  cases hx with
  | ro _ _ _ A cap hr => exact ⟨A, cap, rfl, hr.reads⟩
 ·split at h
  ·rename_i n k' e xs' hb
   simp only [Option.some.injEq, Prod.mk.injEq] at h
   obtain ⟨_, rfl, rfl⟩ := h
   cases hx with
   | own _ hd => exact BI (hS.hp _ _ hb)
  ·cases h
 ·cases h
theorem ng.has {t : TypeId} {i : TI} (h : ng P t i) : ∃ d, P.underlying t = some d := by
 cases i with
 | int k => exact ⟨_, h.1⟩
 | bool => exact ⟨_, h.1⟩
 | str => exact ⟨_, h.1⟩
 | sl e k b => exact ⟨_, h.1⟩
 | st zs fs => obtain ⟨F, hu, _⟩ := h; exact ⟨_, hu⟩
theorem run_convert_int {src dst : TypeId} {k k' : IntKind} {n : Int} {d : TypeDesc} (hs : P.underlying src = some d) (hd : P.underlying dst = some (.int k)) (w : World) : (convert src dst (.int k' n)).run P w = .ok (.int k (k.wrap n)) w := by
 simp only [convert, Sem.run_bind, run_underlying hs, run_underlying hd, Result.andThen_ok]
 cases d <;> rfl
theorem EZ {src dst : TypeId} {x : Operand} (ho : o.op = .convert src dst x) (hT : kL P E.ty) (hS : Sim w0 O0 nt s a w g) (hn : E.nt = nt) (h : exec E o s K = some r) : ∃ s', K s' = some r ∧ Does P w0 O0 nt o a w s' := by
 unfold exec at h
 rw [ho] at h
 dsimp only at h
 split at h
 ·rename_i k' n ti k hax hsrc hdst
  have ex := iY (jV hS hax)
  obtain ⟨d, hu⟩ := (hT.at_ hsrc).has
  exact jO (by rw [ho]; rfl) hS hn (v := .int k (wr k n)) (fun w' _ => by rw [AZ]; simp [execOp, ho, ex, run_convert_int hu (hT.at_ hdst).1]) (.v _) h
 ·rename_i y e b hnot hax hsrc hdst
  have hx := jV hS hax
  obtain ⟨hu, _, _, he, _⟩ := hT.at_ hsrc
  obtain ⟨hu2, _⟩ := hT.at_ hdst
  split at h
  ·rename_i f xs hrow
   obtain ⟨A, c, hv, hr⟩ := BR hS hx hrow
   refine jO (by rw [ho]; rfl) hS hn (v := .string (strOfNums xs)) (fun w' hw' => ?_) (.v _) h
   simp [execOp, ho, hv, xR (P := P) hu he hu2 (hr.below hw')]
  ·cases h
 ·rename_i t hax hsrc hdst
  have ex := iY (jV hS hax)
  obtain ⟨hu, _⟩ := hT.at_ hsrc
  obtain ⟨hu2, _⟩ := hT.at_ hdst
  exact jO (by rw [ho]; rfl) hS hn (v := .string t) (fun w' _ => by simp [execOp, ho, ex, convert, run_underlying hu, run_underlying hu2]) (.v _) h
 ·cases h
def Bnd (x : Option Value) (top d r : Nat) : Prop := (x = none ∧ r = d) ∨ ∃ k n, x = some (.int k n) ∧ 0 ≤ n ∧ n ≤ (top : Int) ∧ r = n.toNat
theorem MX {t : TypeId} (hu : P.underlying t = some .string) {b : ByteArray} {lo hi : Option Value} {l h : Nat} (hh : Bnd hi b.size b.size h) (hl : Bnd lo h 0 l) (w : World) :
  (Instr.sliceAt t (.string b) lo hi none).run P w = .ok (.string (b.extract l h)) w := by
 rcases hh with ⟨rfl, rfl⟩ | ⟨k, n, rfl, h0, h1, rfl⟩ <;> rcases hl with ⟨rfl, rfl⟩ | ⟨k', n', rfl, h2, h3, rfl⟩
 ·simp [Instr.sliceAt, run_underlying hu, Instr.slice, Instr.sliceBounds]
 ·simp [Instr.sliceAt, run_underlying hu, Instr.slice, Instr.sliceBounds, Instr.sliceBound, asIntOf, h2, h3]
 ·simp [Instr.sliceAt, run_underlying hu, Instr.slice, Instr.sliceBounds, Instr.sliceBound, asIntOf, h0, h1]
 ·simp only [Instr.sliceAt, run_underlying hu, Instr.slice, Instr.sliceBounds, Instr.sliceBound, asIntOf, Sem.run_bind, Result.andThen_ok, pure_bind, h0, h1, h2, h3, and_self, if_true, Sem.run_pure]
  simp [h0, h1, h2, h3]
theorem ok_slice {t : TypeId} {x : Operand} {lo hi : Option Operand} (ho : o.op = .slice t x lo hi none) (hT : kL P E.ty) (hS : Sim w0 O0 nt s a w g) (hn : E.nt = nt) (h : exec E o s K = some r) : ∃ s', K s' = some r ∧ Does P w0 O0 nt o a w s' := by
 unfold exec at h
 rw [ho] at h
 dsimp only at h
 split at h
 ·rename_i b hax hty
  have ex := iY (jV hS hax)
  obtain ⟨hu, _⟩ := hT.at_ hty
  have hk : yS o.op = .y := by rw [ho]; rfl
  have low : ∀ m : Int, Bnd (hi.map a.eval) b.size b.size m.toNat → 0 ≤ m →
    JH E o.dst b lo s K m = some r → ∃ s', K s' = some r ∧ Does P w0 O0 nt o a w s' := fun m hb h0 h => by
   have fin : ∀ l, Bnd (lo.map a.eval) m.toNat 0 l → ∀ w' : World, (execOp a.eval o).run P w' = .ok (.value (.string (b.extract l m.toNat))) w' := fun l hl w' => by
    simp [execOp, ho, ex, MX (P := P) hu hb hl]
   clear hb
   unfold JH at h
   split at h
   ·exact jO hk hS hn (v := .string (b.extract 0 m.toNat)) (fun w' _ => fin 0 (.inl ⟨rfl, rfl⟩) w') (.v _) h
   ·rename_i y
    split at h
    ·rename_i k n hy
     have ey := iY (jV hS hy)
     split at h
     ·rename_i h2
      split at h
      ·rename_i h3
       exact jO hk hS hn (v := .string (b.extract n.toNat m.toNat)) (fun w' _ => fin _ (.inr ⟨k, n, by simp [ey], h2, by omega, rfl⟩) w') (.v _) h
      ·cases h
     ·cases h
    ·cases h
  unfold OO at h
  cases hi with
  | none => exact low (b.size : Int) (.inl ⟨rfl, by simp⟩) (by omega) h
  | some y =>
   dsimp only at h
   split at h
   ·rename_i k n hy
    have ey := iY (jV hS hy)
    split at h
    ·rename_i h0
     split at h
     ·rename_i h1
      exact low n (.inr ⟨k, n, by simp [ey], h0, h1, rfl⟩) h0 h
     ·cases h
    ·cases h
   ·cases h
 ·cases h
theorem uK (hS : Sim w0 O0 nt s a w g) : ∀ {l : List Operand} {ys : List AV}, evs s l = some ys → VRs w0.heap.size w (Wet O0 s.h g) (Dom s.h) g ys (l.map a.eval)
 | [], ys, h => by obtain rfl := Option.some.inj h; exact .nil
 | x :: l, ys, h => by
  unfold evs at h
  split at h
  ·cases h
  ·rename_i y hy
   split at h
   ·rename_i m hm
    obtain rfl := Option.some.inj h
    exact .cons _ _ _ _ (jV hS hy) (uK hS hm)
   ·cases h
theorem O8 {B : Nat} {O D : Nat → Prop} {x : AV} {vs : List Value} (h : VRs B w O D g [x] vs) : ∃ v, vs = [v] ∧ VR B w O D g x v := by
 cases h with
 | cons _ y _ _ hx hs => cases hs; exact ⟨y, rfl, hx⟩
theorem O9 {B : Nat} {O D : Nat → Prop} {x y : AV} {vs : List Value} (h : VRs B w O D g [x, y] vs) : ∃ v u, vs = [v, u] ∧ VR B w O D g x v ∧ VR B w O D g y u := by
 cases h with
 | cons _ v _ _ hx hs => obtain ⟨u, rfl, hu⟩ := O8 hs; exact ⟨v, u, rfl, hx, hu⟩
theorem t_ {args : Array Operand} {f : Operand → Value} {l : List Value} (h : args.toList.map f = l) : args.map f = ⟨l⟩ := by
 subst h
 cases args
 simp
theorem O_ {args : Array Operand} {ts : Array TypeId} (ho : o.op = .call { callee := .builtin .len, args := args, argTypes := ts }) (hT : kL P E.ty) (hS : Sim w0 O0 nt s a w g) (hn : E.nt = nt) (h : exec E o s K = some r) : ∃ s', K s' = some r ∧ Does P w0 O0 nt o a w s' := by
 unfold exec at h
 rw [ho] at h
 dsimp only at h
 split at h
 ·rename_i b t hev hts
  obtain ⟨v, hv, hx⟩ := O8 (uK hS hev)
  obtain rfl := iY hx
  obtain rfl : ts = #[t] := by cases ts; simp_all
  split at h
  ·rename_i hty
   obtain ⟨hu, _⟩ := hT.at_ hty
   refine jO (by rw [ho]; rfl) hS hn (v := .int .i64 (b.size : Int)) (fun w' _ => ?_) (.v _) h
   simp [execOp, ho, resolve, t_ hv, invoke, builtin, Builtin.len_, run_underlying hu, goInt]
  ·cases h
 ·rename_i x t hnot hev hts
  obtain ⟨v, hv, hx⟩ := O8 (uK hS hev)
  obtain rfl : ts = #[t] := by cases ts; simp_all
  split at h
  ·rename_i e k b f k2 xs hty hrow
   obtain ⟨hu, _⟩ := hT.at_ hty
   obtain ⟨A, c, rfl, _⟩ := BR hS (qF t hx) hrow
   refine jO (by rw [ho]; rfl) hS hn (v := .int .i64 (xs.length : Int)) (fun w' _ => ?_) (.v _) h
   simp [execOp, ho, resolve, t_ hv, invoke, builtin, Builtin.len_, run_underlying hu, goInt]
  ·cases h
 ·cases h
theorem Pg {args : Array Operand} {ts : Array TypeId} (ho : o.op = .call { callee := .builtin .min, args := args, argTypes := ts }) (hS : Sim w0 O0 nt s a w g) (hn : E.nt = nt) (h : exec E o s K = some r) : ∃ s', K s' = some r ∧ Does P w0 O0 nt o a w s' := by
 unfold exec at h
 rw [ho] at h
 dsimp only at h
 split at h
 ·rename_i k x k' y hev
  obtain ⟨v, u, hv, hx, hy⟩ := O9 (uK hS hev)
  obtain rfl := iY hx
  obtain rfl := iY hy
  split at h
  ·refine jO (by rw [ho]; rfl) hS hn (v := .int k (mn x y)) (fun w' _ => ?_) (.v _) h
   simp [execOp, ho, resolve, t_ hv, invoke, builtin, run_min_int2, mn]
  ·cases h
 ·cases h
theorem Ph {args : Array Operand} {ts : Array TypeId} (ho : o.op = .call { callee := .builtin .max, args := args, argTypes := ts }) (hS : Sim w0 O0 nt s a w g) (hn : E.nt = nt) (h : exec E o s K = some r) : ∃ s', K s' = some r ∧ Does P w0 O0 nt o a w s' := by
 unfold exec at h
 rw [ho] at h
 dsimp only at h
 split at h
 ·rename_i k x k' y hev
  obtain ⟨v, u, hv, hx, hy⟩ := O9 (uK hS hev)
  obtain rfl := iY hx
  obtain rfl := iY hy
  split at h
  ·refine jO (by rw [ho]; rfl) hS hn (v := .int k (mx x y)) (fun w' _ => ?_) (.v _) h
   simp [execOp, ho, resolve, t_ hv, invoke, builtin, run_max_int2, mx]
  ·cases h
 ·cases h
end
end Go.Proofs.YtafikkmnkeddpaaGreatDoor.E
namespace Go.Proofs.YtafikkmnkeddpaaGreatDoor.E
open Go.RowKit Go.Proofs.YtafikkmnkeddpaaGreatDoorW.PrintWords Go.Proofs.YtafikkmnkeddpaaGreatDoorW.PrintLast Go.Proofs.YtafikkmnkeddpaaGreatDoorW.PrintMore
section
variable {P : Program} {E : Env} {o : Oper} {s : St} {a : Act} {w0 w : World} {O0 : Nat → Prop} {nt : Nat} {g : Nat → Value} {K : St → Option AV} {r : AV}
theorem yV (hS : Sim w0 O0 nt s a w g) {x : AV} {v : Value} (hx : VR w0.heap.size w (Wet O0 s.h g) (Dom s.h) g x v) (h : fit x = true) : v.cells = #[v] ∧ v.oneCell' = true := by
 cases hx with
 | v => cases v <;> first | exact ⟨rfl, rfl⟩ | (simp [fit] at h)
 | ro => exact ⟨rfl, rfl⟩
 | own n hd =>
  obtain ⟨b, hb⟩ := hd
  have := hS.hp n b hb
  cases b with
  | ints k e xs =>
   obtain ⟨A, c, hg⟩ := wY this
   rw [hg]; exact ⟨rfl, rfl⟩
  | cells l =>
   obtain ⟨b, vs, ty, hg, _⟩ := this
   rw [hg]; exact ⟨rfl, rfl⟩
 | ptr => exact ⟨rfl, rfl⟩
 | ept => exact ⟨rfl, rfl⟩
 | rpt => exact ⟨rfl, rfl⟩
 | top => simp [fit] at h
 | agg => simp [fit] at h
 | tup => simp [fit] at h
 | new => simp [fit] at h
def oI : List Value → Nat → List Value → List Value
 | l, _, [] => l
 | l, i, x :: r => oI (l.set i x) (i + 1) r
theorem BU {B : Nat} {O D : Nat → Prop} : ∀ {ys : List AV} {us : List Value} {i : Nat} {l : List AV} {vs : List Value}, VRs B w O D g ys us → VRs B w O D g l vs → VRs B w O D g (over l i ys) (oI vs i us)
 | [], us, i, l, vs, h, hl => by cases h; exact hl
 | y :: ys, us, i, l, vs, h, hl => by
  cases h with
  | cons _ u _ us' hy hs => exact BU (ys := ys) (us := us') (i := i + 1) (l := l.set i y) (vs := vs.set i u) hs (hl.set i hy)
theorem qW (off : Nat) : ∀ (us : List Value) (k : Nat) (vs : List Value), (us.zipIdx k).foldl (fun (cs : Array Value) x => cs.setIfInBounds (off + x.2) x.1) ⟨vs⟩ = ⟨oI vs (off + k) us⟩
 | [], k, vs => rfl
 | u :: us, k, vs => by
  rw [List.zipIdx_cons, List.foldl_cons]
  have : (⟨vs⟩ : Array Value).setIfInBounds (off + k) u = ⟨vs.set (off + k) u⟩ := by simp
  rw [this, qW off us (k + 1)]
  rfl
theorem wF {place : Nat → Option (Nat × Nat)} {cells : Array Value} {i off size : Nat} {v : Value} {rest : List (Nat × Value)} (hp : place i = some (off, size)) (h1 : v.cells.size = size) (h2 : off + v.cells.size ≤ cells.size) :
  Instr.fill place cells ((i, v) :: rest) = Instr.fill place (v.cells.zipIdx.foldl (fun cs x => cs.setIfInBounds (off + x.2) x.1) cells) rest := by
 conv => lhs; unfold Instr.fill
 rw [hp]
 dsimp only
 rw [if_neg (by simp only [Bool.or_eq_true, decide_eq_true_eq]; omega)]
theorem JR {B : Nat} {O D : Nat → Prop} {l : List AV} {vs : List Value} {i : Nat} {y : AV} {u : Value} (hl : VRs B w O D g l vs) (hy : VR B w O D g y u) : VRs B w O D g (l.set i y) (oI vs i [u]) := hl.set i hy
theorem yX (hS : Sim w0 O0 nt s a w g) {fs : List (Nat × Nat × Bool)} : ∀ {l : List (Nat × AV)} {l2 : List (Nat × Value)} {cs cs' : List AV} {vs : List Value}, VRs w0.heap.size w (Wet O0 s.h g) (Dom s.h) g cs vs → VRs w0.heap.size w (Wet O0 s.h g) (Dom s.h) g (l.map (·.2)) (l2.map (·.2)) → l.map (·.1) = l2.map (·.1) → yO fs cs l = some cs' →
  ∃ vs', Instr.fill (fun i => (fs[i]?).map fun x => (x.1, x.2.1)) ⟨vs⟩ l2 = some ⟨vs'⟩ ∧ VRs w0.heap.size w (Wet O0 s.h g) (Dom s.h) g cs' vs'
 | [], l2, cs, cs', vs, hc, hv, he, h => by
  have : l2 = [] := by simpa using he.symm
  subst this
  obtain rfl := Option.some.inj h
  exact ⟨vs, rfl, hc⟩
 | (i, x) :: l, [], cs, cs', vs, hc, hv, he, h => by simp at he
 | (i, x) :: l, (j, v) :: l2, cs, cs', vs, hc, hv, he, h => by
  simp only [List.map_cons, List.cons.injEq] at he
  obtain ⟨rfl, he⟩ := he
  simp only [List.map_cons] at hv
  cases hv with
  | cons _ _ _ _ hx hv =>
   unfold yO at h
   split at h
   ·rename_i o' n b hf
    split at h
    ·rename_i ys
     cases hx with
     | agg _ us hus =>
      split at h
      ·rename_i h1 h2
       have h1 := Nat.eq_of_beq_eq_true h1
       have h2 := Nat.le_of_ble_eq_true h2
       obtain ⟨vs', h3, h4⟩ := yX hS (BU (i := o') hus hc) hv he h
       refine ⟨vs', ?_, h4⟩
       have e1 : us.length = n := by rw [← hus.length]; exact h1
       have e2 : ¬ (vs.length < o' + n) := by rw [← hc.length]; omega
       have hfo := qW o' us 0 vs
       simp only [Nat.add_zero] at hfo
       rw [wF (place := fun i => (fs[i]?).map fun x => (x.1, x.2.1)) (cells := ⟨vs⟩) (v := .agg ⟨us⟩) (off := o') (size := n) (by simp [hf]) e1 (by show o' + us.length ≤ vs.length; omega), ← Array.foldl_toList, Array.toList_zipIdx]
       show Instr.fill _ ((us.zipIdx 0).foldl _ _) l2 = _
       rw [hfo]
       exact h3
      ·cases h
    ·rename_i hna
     split at h
     ·rename_i h0 h1 h2
      have h1 := Nat.eq_of_beq_eq_true h1
      have h2 := Nat.le_of_ble_eq_true h2
      obtain ⟨hcell, _⟩ := yV hS hx h0
      obtain ⟨vs', h3, h4⟩ := yX hS (JR (i := o') hc hx) hv he h
      refine ⟨vs', ?_, h4⟩
      have e2 : ¬ (vs.length < o' + 1) := by rw [← hc.length]; omega
      have hfo := qW o' [v] 0 vs
      simp only [Nat.add_zero] at hfo
      rw [wF (place := fun i => (fs[i]?).map fun x => (x.1, x.2.1)) (cells := ⟨vs⟩) (v := v) (off := o') (size := n) (by simp [hf]) (by rw [hcell]; exact h1.symm) (by rw [hcell]; show o' + 1 ≤ vs.length; omega), hcell, ← Array.foldl_toList, Array.toList_zipIdx]
      show Instr.fill _ (([v].zipIdx 0).foldl _ _) l2 = _
      rw [hfo]
      exact h3
     ·cases h
   ·cases h
theorem yY (hS : Sim w0 O0 nt s a w g) : ∀ {ps : List (Nat × Operand)} {l : List (Nat × AV)}, yN s ps = some l → VRs w0.heap.size w (Wet O0 s.h g) (Dom s.h) g (l.map (·.2)) ((ps.map fun p => (p.1, a.eval p.2)).map (·.2)) ∧ l.map (·.1) = (ps.map fun p => (p.1, a.eval p.2)).map (·.1)
 | [], l, h => by obtain rfl := Option.some.inj h; exact ⟨.nil, rfl⟩
 | (i, x) :: ps, l, h => by
  unfold yN at h
  split at h
  ·cases h
  ·rename_i y hy
   split at h
   ·rename_i m hm
    obtain rfl := Option.some.inj h
    obtain ⟨h1, h2⟩ := yY hS hm
    exact ⟨.cons _ _ _ _ (jV hS hy) h1, by simp only [List.map_cons]; rw [h2]⟩
   ·cases h
theorem A_ : ∀ {F : List Field} {fs : List (Nat × Nat × Bool)}, F.map (uJ P) = fs.map some → F.mapM (fun f => (P.info? f.type).map fun i => (f.offset, i.size)) = some (fs.map fun x => (x.1, x.2.1))
 | [], fs, h => by
  have : fs = [] := by simpa using h.symm
  subst this; rfl
 | f :: F, [], h => by simp at h
 | f :: F, x :: fs, h => by
  simp only [List.map_cons, List.cons.injEq] at h
  obtain ⟨o', n, b⟩ := x
  obtain ⟨i, d, hi, hu2, hoff, hsz, hb⟩ := qh h.1
  simp [List.mapM_cons, hi, A_ h.2, hoff, hsz]
theorem JU {t : TypeId} {ps : Array (Nat × Operand)} (ho : o.op = .build t ps) (hT : kL P E.ty) (hS : Sim w0 O0 nt s a w g) (hn : E.nt = nt) (h : exec E o s K = some r) : ∃ s', K s' = some r ∧ Does P w0 O0 nt o a w s' := by
 unfold exec at h
 rw [ho] at h
 dsimp only at h
 split at h
 ·rename_i l zs fs hps hty
  obtain ⟨F, hu, hinfo, hF⟩ := hT.at_ hty
  obtain ⟨i, hi, hz, hsz⟩ := oV hinfo
  split at h
  ·rename_i cs hcs
   obtain ⟨h1, h2⟩ := yY hS hps
   obtain ⟨vs', h3, h4⟩ := yX hS (JK zs) h1 h2 hcs
   refine jO (by rw [ho]; rfl) hS hn (v := .agg ⟨vs'⟩) (fun w' _ => ?_) (.agg _ _ h4) h
   have hb : P.built t (ps.toList.map fun p => (p.1, a.eval p.2)) = some ⟨vs'⟩ := by
    unfold Program.built
    rw [hi, hu]
    dsimp only
    rw [hz, A_ hF]
    dsimp only
    rw [← h3]
    congr 1
    funext j
    simp
   have hr := run_build (P := P) w' t (ps.map fun p => (p.1, a.eval p.2)) ⟨vs'⟩ (by rw [Array.toList_map]; exact hb)
   simp only [execOp, ho]
   simp only [Sem.run_bind]
   rw [hr]
   rfl
  ·cases h
 ·cases h
end
end Go.Proofs.YtafikkmnkeddpaaGreatDoor.E
namespace Go.Proofs.YtafikkmnkeddpaaGreatDoor.E
open Go.RowKit Go.Proofs.YtafikkmnkeddpaaGreatDoorW.PrintWords Go.Proofs.YtafikkmnkeddpaaGreatDoorW.PrintLast Go.Proofs.YtafikkmnkeddpaaGreatDoorW.PrintMore
section
variable {P : Program} {E : Env} {o : Oper} {s : St} {a : Act} {w0 w w' : World} {O0 : Nat → Prop} {nt : Nat} {g : Nat → Value} {K : St → Option AV} {r : AV}
def upd (g : Nat → Value) (n : Nat) (y : Value) : Nat → Value := fun m => if m = n then y else g m
theorem upd_same {g : Nat → Value} {n : Nat} {y : Value} : upd g n y n = y := by simp [upd]
theorem JV (hS : Sim w0 O0 nt s a w g) {n : Nat} (hn : lk n s.h = none) {y : Value} {b : Blk} (hw : Below w.heap.size w w') (hy : ∀ k, bk y = some k → w.heap.size ≤ k) :
  (∀ q, q < w.heap.size → ¬ Wet O0 s.h g q → ¬ Wet O0 ((n, b) :: s.h) (upd g n y) q ∧ w'.heap[q]? = w.heap[q]?) ∧ (∀ m, Dom s.h m → Dom ((n, b) :: s.h) m ∧ upd g n y m = g m) := by
 have hnd : ¬ Dom s.h n := fun ⟨x, hx⟩ => by rw [hn] at hx; cases hx
 have hD : ∀ m, Dom s.h m → Dom ((n, b) :: s.h) m ∧ upd g n y m = g m := fun m hm => by
  have : n ≠ m := fun e => hnd (e ▸ hm)
  obtain ⟨x, hx⟩ := hm
  exact ⟨⟨x, by rw [kG this]; exact hx⟩, by simp [upd, Ne.symm this]⟩
 refine ⟨fun q hq ho => ⟨fun ho' => ?_, hw.block q hq⟩, hD⟩
 rcases ho' with ho' | ⟨m, ⟨x, hx⟩, hk⟩
 ·exact ho (.inl ho')
 ·by_cases e : n = m
  ·subst e
   rw [upd_same] at hk
   have := hy q hk
   omega
  ·rw [kG e] at hx
   rw [(hD m ⟨x, hx⟩).2] at hk
   exact ho (.inr ⟨m, ⟨x, hx⟩, hk⟩)
theorem GX (hS : Sim w0 O0 nt s a w g) (hn : E.nt = nt) {d : Option Tmp} {b : Blk} {xf : Nat → AV} {y : Value} (hw : Below w.heap.size w w') (hy : ∀ k, bk y = some k → w.heap.size ≤ k)
  (hb : ∀ n, lk n s.h = none → rQ w0.heap.size w' (Wet O0 ((n, b) :: s.h) (upd g n y)) (Dom ((n, b) :: s.h)) (upd g n y) y b)
  (hx : ∀ (n : Nat) (O D : Nat → Prop) (g' : Nat → Value), D n → g' n = y → VR w0.heap.size w' O D g' (xf n) y)
  (h : uq E d b xf s K = some r) : ∃ s' g', K s' = some r ∧ Sim w0 O0 nt s' (a.put d y) w' g' := by
 unfold uq at h
 split at h
 ·cases h
 ·rename_i n
  split at h
  ·cases h
  ·rename_i hl
   have h1 := hS.fresh hl (b := b) hw hy (hb n hl)
   obtain ⟨s', h2, h3⟩ := uU h1 hn (hx n _ _ _ ⟨b, lD⟩ (by simp)) h
   exact ⟨s', _, h2, h3⟩
theorem DJ (hS : Sim w0 O0 nt s a w g) (hn : E.nt = nt) {d : Option Tmp} {b : Blk} {xf : Nat → AV} (h : uq E d b xf s K = some r) :
  ∃ n s', K s' = some r ∧ ∀ (y v : Value) (w' : World), Below w.heap.size w w' → (∀ k, bk y = some k → w.heap.size ≤ k) →
   rQ w0.heap.size w' (Wet O0 ((n, b) :: s.h) (upd g n y)) (Dom ((n, b) :: s.h)) (upd g n y) y b →
   VR w0.heap.size w' (Wet O0 ((n, b) :: s.h) (upd g n y)) (Dom ((n, b) :: s.h)) (upd g n y) (xf n) v → Sim w0 O0 nt s' (a.put d v) w' (upd g n y) := by
 unfold uq at h
 split at h
 ·cases h
 ·rename_i n
  split at h
  ·cases h
  ·rename_i hl
   unfold lY at h
   dsimp only at h
   split at h
   ·rename_i hb
    have h9 := Nat.le_of_ble_eq_true hb
    exact ⟨n, _, h, fun y v w' hw hy hb hx => (hS.fresh hl hw hy hb).put (by omega) hx⟩
   ·cases h
theorem E5 (hk : yS o.op = .m) (hS : Sim w0 O0 nt s a w g) (hn : E.nt = nt) {b : Blk} {xf : Nat → AV} {y : Value} (hrun : (execOp a.eval o).run P w = .ok (.value y) w') (hw : Below w.heap.size w w') (hy : ∀ k, bk y = some k → w.heap.size ≤ k)
  (hb : ∀ n, lk n s.h = none → rQ w0.heap.size w' (Wet O0 ((n, b) :: s.h) (upd g n y)) (Dom ((n, b) :: s.h)) (upd g n y) y b)
  (hx : ∀ (n : Nat) (O D : Nat → Prop) (g' : Nat → Value), D n → g' n = y → VR w0.heap.size w' O D g' (xf n) y)
  (h : uq E o.dst b xf s K = some r) : ∃ s', K s' = some r ∧ Does P w0 O0 nt o a w s' := by
 obtain ⟨s', g', h1, h2⟩ := GX hS hn hw hy hb hx h
 refine ⟨s', h1, ?_⟩
 unfold Does
 rw [hk]
 show o.wp P a w _ _
 unfold Oper.wp
 rw [hrun]
 exact ⟨hw, g', h2⟩
theorem qG (w : World) (x : Obj) : Below w.heap.size w (w.alloc x) := (Below.refl _ _).alloc (Nat.le_refl _) x
theorem qX {w w' : World} (h : w.grownBy w' none) : Below w.heap.size w w' := ⟨h.os, h.tape, h.output, h.size, fun k hk => h.block k hk (by simp)⟩
theorem yZ (t : TypeId) (v : Value) (w : World) : (newVar t v).run P w = .ok ⟨w.heap.size, 0, none⟩ (w.alloc (.cells v.cells t)) := rfl
theorem JW {B : Nat} {w : World} {q : Nat} (n : Nat) (O D : Nat → Prop) (g' : Nat → Value) (hd : D n) (hg : g' n = .pointer (some ⟨q, 0, none⟩)) : VR B w O D g' (.ptr n 0) (.pointer (some ⟨q, 0, none⟩)) := .ptr n 0 q hd hg
theorem JX (hS : Sim w0 O0 nt s a w g) {t : TypeId} {l : List AV} {vs : List Value} (hv : VRs w0.heap.size w (Wet O0 s.h g) (Dom s.h) g l vs) (n : Nat) (hn : lk n s.h = none) :
  rQ w0.heap.size (w.alloc (.cells ⟨vs⟩ t)) (Wet O0 ((n, .cells l) :: s.h) (upd g n (.pointer (some ⟨w.heap.size, 0, none⟩)))) (Dom ((n, .cells l) :: s.h)) (upd g n (.pointer (some ⟨w.heap.size, 0, none⟩))) (.pointer (some ⟨w.heap.size, 0, none⟩)) (.cells l) := by
 obtain ⟨h1, h2⟩ := JV hS hn (y := .pointer (some ⟨w.heap.size, 0, none⟩)) (b := .cells l) (qG w (.cells ⟨vs⟩ t)) (fun k hk => by simp [bk] at hk; omega)
 refine ⟨w.heap.size, vs, t, rfl, hS.be.size, ?_, hv.tr (qG w _).size h1 h2 (Nat.le_refl _)⟩
 show (w.heap.push _)[w.heap.size]? = _
 simp
theorem JY {e : TypeId} (ho : o.op = .alloc e) (hT : kL P E.ty) (hS : Sim w0 O0 nt s a w g) (hn : E.nt = nt) (h : exec E o s K = some r) : ∃ s', K s' = some r ∧ Does P w0 O0 nt o a w s' := by
 unfold exec at h
 rw [ho] at h
 dsimp only at h
 split at h
 ·rename_i ti hty
  have hz : ∃ i z vs, P.info? e = some i ∧ i.zero = some z ∧ z.cells = ⟨vs⟩ ∧ VRs w0.heap.size w (Wet O0 s.h g) (Dom s.h) g ti.zero vs := by
   by_cases hst : ∃ zs fs, ti = .st zs fs
   ·obtain ⟨zs, fs, rfl⟩ := hst
    obtain ⟨F, hu, hinfo, hF⟩ := hT.at_ hty
    obtain ⟨i, hi, hz, hsz⟩ := oV hinfo
    exact ⟨i, _, _, hi, hz, rfl, JK zs⟩
   ·obtain ⟨d, hu, hd, x, z, hi, hz, hxz, _, hf⟩ := (hT.at_ hty).one (fun zs fs e => hst ⟨zs, fs, e⟩)
    rw [hz]
    exact ⟨x, _, [z.val], hi, hxz, (yV hS (Z.vr z) hf).1, .cons _ _ _ _ (Z.vr z) .nil⟩
  obtain ⟨i, z, vs, hi, hz, hc, hv⟩ := hz
  refine E5 (by rw [ho]; rfl) hS hn (y := .pointer (some ⟨w.heap.size, 0, none⟩)) (w' := w.alloc (.cells ⟨vs⟩ e)) ?_ (qG w _) (fun k hk => by simp [bk] at hk; omega) (JX hS hv) (fun n O D g' hd hg => JW n O D g' hd hg) h
  have h1 : (zeroValue e).run P w = .ok z w := by simp [zeroValue, typeInfo, hi, hz]
  simp only [execOp, ho, Instr.alloc, Sem.run_bind, h1, Result.andThen_ok, yZ, hc, Sem.run_pure]
 ·cases h
theorem Pj {e : TypeId} {x : Operand} (ho : o.op = .box e x) (hT : kL P E.ty) (hS : Sim w0 O0 nt s a w g) (hn : E.nt = nt) (h : exec E o s K = some r) : ∃ s', K s' = some r ∧ Does P w0 O0 nt o a w s' := by
 unfold exec at h
 rw [ho] at h
 dsimp only at h
 have fin : ∀ {l : List AV} {vs : List Value}, (a.eval x).cells = ⟨vs⟩ → VRs w0.heap.size w (Wet O0 s.h g) (Dom s.h) g l vs → uq E o.dst (.cells l) (fun d => .ptr d 0) s K = some r → ∃ s', K s' = some r ∧ Does P w0 O0 nt o a w s' := fun {l vs} hc hv h => by
  refine E5 (by rw [ho]; rfl) hS hn (y := .pointer (some ⟨w.heap.size, 0, none⟩)) (w' := w.alloc (.cells ⟨vs⟩ e)) ?_ (qG w _) (fun k hk => by simp [bk] at hk; omega) (JX hS hv) (fun n O D g' hd hg => JW n O D g' hd hg) h
  simp only [execOp, ho, Instr.box, Sem.run_bind, Result.andThen_ok, yZ, hc, Sem.run_pure]
 split at h
 ·rename_i l zs fs hax hty
  have hx := jV hS hax
  generalize hv : a.eval x = v at hx fin
  cases hx with
  | agg _ vs hs => exact fin rfl hs h
 ·cases h
 ·rename_i y ti _ hnot hax hty
  have hx := jV hS hax
  split at h
  ·rename_i hf
   exact fin (yV hS hx hf).1 (.cons _ _ _ _ hx .nil) h
  ·cases h
 ·cases h
end
end Go.Proofs.YtafikkmnkeddpaaGreatDoor.E
namespace Go.Proofs.YtafikkmnkeddpaaGreatDoor.E
open Go.RowKit Go.Proofs.YtafikkmnkeddpaaGreatDoorW.PrintWords Go.Proofs.YtafikkmnkeddpaaGreatDoorW.PrintLast Go.Proofs.YtafikkmnkeddpaaGreatDoorW.PrintMore
section
variable {P : Program} {E : Env} {o : Oper} {s : St} {a : Act} {w0 w w' : World} {O0 : Nat → Prop} {nt : Nat} {g : Nat → Value} {K : St → Option AV} {r : AV}
theorem BX {B : Nat} {w : World} {y : Value} (n : Nat) (O D : Nat → Prop) (g' : Nat → Value) (hd : D n) (hg : g' n = y) : VR B w O D g' (.own n) y := hg ▸ .own n hd
theorem BZ (hk : yS o.op = .m) (hS : Sim w0 O0 nt s a w g) (hn : E.nt = nt) {k : IntKind} {e : TypeId} {xs : List Int} {y : Value} (hrun : (execOp a.eval o).run P w = .ok (.value y) w') (hw : Below w.heap.size w w') (hy : ∀ q, bk y = some q → w.heap.size ≤ q)
  (hb : w'.ownsRow w0.heap.size e 1 y xs.length (nums k xs)) (h : uq E o.dst (.ints k e xs) (fun d => .own d) s K = some r) : ∃ s', K s' = some r ∧ Does P w0 O0 nt o a w s' :=
 E5 (b := .ints k e xs) hk hS hn hrun hw hy (fun n _ => hb) (fun n O D g' hd hg => BX n O D g' hd hg) h
theorem II (k : IntKind) (n : Nat) : (madeCells (Value.int k 0).cells (n * 1)).toList = nums k (List.replicate n 0) := by
 apply List.ext_getElem?
 intro i
 simp only [madeCells, Nat.mul_one, nums, List.map_replicate, Value.cells]
 by_cases hi : i < n
 ·simp [hi]
  rw [Nat.mod_one]
  rfl
 ·simp [hi]
theorem B_ {t : TypeId} {l c : Operand} (ho : o.op = .makeSlice t l c) (hT : kL P E.ty) (hS : Sim w0 O0 nt s a w g) (hn : E.nt = nt) (h : exec E o s K = some r) : ∃ s', K s' = some r ∧ Does P w0 O0 nt o a w s' := by
 unfold exec at h
 rw [ho] at h
 dsimp only at h
 split at h
 ·rename_i x y e k b hax hac hty
  have ex := iY (jV hS hax)
  have ey := iY (jV hS hac)
  obtain ⟨hu, _, hinfo, _, hb0⟩ := hT.at_ hty
  obtain ⟨i, hi, hz⟩ := Option.map_eq_some_iff.1 hinfo
  simp only [Prod.mk.injEq] at hz
  obtain ⟨hz1, hz2, hz3⟩ := hz
  split at h
  ·rename_i hsame
   have exy : x = y := by
    unfold JI at hsame
    split at hsame
    ·rename_i p q
     obtain rfl := Nat.eq_of_beq_eq_true hsame
     rw [ex] at ey; injection ey
    ·have h1 := of_decide_eq_true hsame
     subst h1
     simp only [Act.eval] at ex ey
     injection ex with _ ex
     injection ey with _ ey
     rw [← ex, ← ey]
    ·cases hsame
   subst exy
   split at h
   ·rename_i h0
    split at h
    ·rename_i hlim
     have hm : x.toNat ≤ maxLen := by
      have : x.toNat * 1 ≤ x.toNat * b := Nat.mul_le_mul_left _ hb0
      simp only [maxLen]; omega
     obtain ⟨w1, hrun, r1, r2⟩ := run_make_full (P := P) (w := w) w0.heap.size t e i (.int k 0) 1 hu hi hz1 hz2 .i64 .i64 x.toNat (by rw [hz3, Nat.mul_comm]; exact hlim) hm hS.be.size
     rw [II] at r1
     refine BZ (by rw [ho]; rfl) hS hn (y := .slice (some ⟨w.heap.size, 0, none⟩) x.toNat x.toNat) (w' := w1) ?_ (qX r2) (fun q hq => by simp [bk] at hq; omega) (by simpa using r1) h
     have : ((x.toNat : Nat) : Int) = x := by omega
     rw [this] at hrun
     simp [execOp, ho, ex, ey, hrun]
    ·cases h
   ·cases h
  ·split at h
   ·rename_i hx0
    subst hx0
    split at h
    ·rename_i h0
     split at h
     ·rename_i hlim
      have hm : y.toNat ≤ maxLen := by
       have : y.toNat * 1 ≤ y.toNat * b := Nat.mul_le_mul_left _ hb0
       simp only [maxLen]; omega
      obtain ⟨w1, hrun, r1, r2⟩ := run_make_own (P := P) (w := w) w0.heap.size t e i (.int k 0) 1 hu hi hz1 hz2 .i64 .i64 y.toNat (by rw [hz3, Nat.mul_comm]; exact hlim) hm hS.be.size
      refine BZ (by rw [ho]; rfl) hS hn (y := .slice (some ⟨w.heap.size, 0, none⟩) 0 y.toNat) (w' := w1) ?_ (qX r2) (fun q hq => by simp [bk] at hq; omega) r1 h
      have : ((y.toNat : Nat) : Int) = y := by omega
      rw [this] at hrun
      simp [execOp, ho, ex, ey, hrun]
     ·cases h
    ·cases h
   ·cases h
 ·cases h
theorem y7 {k : IntKind} : ∀ {l : List (Nat × AV)} {l2 : List (Nat × Value)} {i : Nat} {xs : List Int} {B : Nat} {O D : Nat → Prop}, VRs B w O D g (l.map (·.2)) (l2.map (·.2)) → l.map (·.1) = l2.map (·.1) → GN k i l = some xs → ∀ vs : List Value, i + xs.length ≤ vs.length →
  Instr.fill (fun i => some (i * 1, 1)) ⟨vs⟩ l2 = some ⟨vs.take i ++ nums k xs ++ vs.drop (i + xs.length)⟩
 | [], l2, i, xs, B, O, D, hv, he, h, vs, hl => by
  have : l2 = [] := by simpa using he.symm
  subst this
  obtain rfl := Option.some.inj h
  simp [Instr.fill, nums]
 | (j, x) :: l, [], i, xs, B, O, D, hv, he, h, vs, hl => by simp at he
 | (j, x) :: l, (j2, v) :: l2, i, xs, B, O, D, hv, he, h, vs, hl => by
  simp only [List.map_cons, List.cons.injEq] at he
  obtain ⟨rfl, he⟩ := he
  simp only [List.map_cons] at hv
  cases hv with
  | cons _ _ _ _ hx hv =>
   unfold GN at h
   split at h
   ·rename_i hc; cases hc
   ·rename_i j3 k3 nn l3 hcons
    simp only [List.cons.injEq, Prod.mk.injEq] at hcons
    obtain ⟨⟨rfl, rfl⟩, rfl⟩ := hcons
    obtain rfl := iY hx
    split at h
    ·rename_i h1 h2
     obtain rfl := Nat.eq_of_beq_eq_true h1
     obtain rfl := tZ h2
     split at h
     ·rename_i m hm
      obtain rfl := Option.some.inj h
      simp only [List.length_cons] at hl
      rw [wF (place := fun i => some (i * 1, 1)) (off := i * 1) (size := 1) rfl rfl (by show i * 1 + 1 ≤ vs.length; omega)]
      have hset : ((Value.int k nn).cells.zipIdx.foldl (fun (cs : Array Value) x => cs.setIfInBounds (i * 1 + x.2) x.1) ⟨vs⟩) = ⟨vs.set i (.int k nn)⟩ := by
       rw [← Array.foldl_toList, Array.toList_zipIdx]
       have := qW (i * 1) [Value.int k nn] 0 vs
       simp [Value.cells, oI]
      rw [hset, y7 hv he hm (vs.set i (.int k nn)) (by simp; omega)]
      congr 2
      have hi : i < vs.length := by omega
      rw [List.take_succ_eq_append_getElem (by simpa using hi), List.take_set_of_le (Nat.le_refl _), List.drop_set_of_lt (by omega)]
      simp [nums]
      congr 1
      omega
     ·cases h
    ·cases h
   ·cases h
theorem Ag {t : TypeId} {n : Nat} {ps : Array (Nat × Operand)} (ho : o.op = .buildSlice t n ps) (hT : kL P E.ty) (hS : Sim w0 O0 nt s a w g) (hn : E.nt = nt) (h : exec E o s K = some r) : ∃ s', K s' = some r ∧ Does P w0 O0 nt o a w s' := by
 unfold exec at h
 rw [ho] at h
 dsimp only at h
 split at h
 ·rename_i l e k b hps hty
  obtain ⟨hu, _, hinfo, _, hb0⟩ := hT.at_ hty
  obtain ⟨i, hi, hz⟩ := Option.map_eq_some_iff.1 hinfo
  simp only [Prod.mk.injEq] at hz
  obtain ⟨hz1, hz2, hz3⟩ := hz
  obtain ⟨h1, h2⟩ := yY hS hps
  split at h
  ·rename_i xs hxs
   split at h
   ·rename_i hl hle
    have hl := Nat.eq_of_beq_eq_true hl
    have hle := Nat.le_of_ble_eq_true hle
    have hsz : (sizeOf e).run P w = .ok 1 w := by rw [run_sizeOf w hi]; simp [Program.cellsOf, hi, hz2]
    have hzero : (zeroValue e).run P w = .ok (.int k 0) w := by simp [zeroValue, typeInfo, hi, hz1]
    have hfill : ∀ z : Array Value, Instr.fill (fun i => some (i * 1, 1)) ((Array.range (n * 1)).map (z[· % z.size]!)) (ps.toList.map fun p => (p.1, a.eval p.2)) = some ⟨nums k xs⟩ := fun z => by
     have := y7 h1 h2 hxs ((Array.range (n * 1)).map (z[· % z.size]!)).toList (by simp [hl])
     rw [show (((Array.range (n * 1)).map (z[· % z.size]!)).toList.take 0 ++ nums k xs ++ ((Array.range (n * 1)).map (z[· % z.size]!)).toList.drop (0 + xs.length)) = nums k xs from by rw [List.drop_eq_nil_of_le (by simp [hl])]; simp] at this
     exact this
    have hnew : w.heap.size = w.heap.size := rfl
    refine BZ (by rw [ho]; rfl) hS hn (y := .slice (some ⟨w.heap.size, 0, none⟩) n n) (w' := w.alloc (.cells ⟨nums k xs⟩ e)) ?_ (qG w _) (fun q hq => by simp [bk] at hq; omega) ?_ h
    ·simp only [execOp, ho, Instr.buildSlice, Sem.run_bind, run_underlying hu, Result.andThen_ok, hsz]
     rw [if_neg (by omega)]
     by_cases h0 : n * 1 = 0
     ·rw [if_pos h0]
      simp only [pure_bind]
      rw [Array.toList_map, hfill]
      rfl
     ·rw [if_neg h0]
      simp only [Sem.run_bind, hzero, Result.andThen_ok, Sem.run_pure]
      rw [Array.toList_map, hfill]
      rfl
    ·refine ⟨by simp [nums], .inr ⟨w.heap.size, n, ⟨nums k xs⟩, by rw [hl], hS.be.size, ?_, by omega, by simp only [maxLen]; omega, by simp [nums, hl], by rw [Nat.mul_one]; exact List.take_of_length_le (by simp [nums])⟩⟩
     show (w.heap.push _)[w.heap.size]? = _
     simp
   ·cases h
  ·cases h
 ·cases h
end
end Go.Proofs.YtafikkmnkeddpaaGreatDoor.E
namespace Go.Proofs.YtafikkmnkeddpaaGreatDoor.E
open Go.RowKit Go.Proofs.YtafikkmnkeddpaaGreatDoorW.PrintWords Go.Proofs.YtafikkmnkeddpaaGreatDoorW.PrintLast Go.Proofs.YtafikkmnkeddpaaGreatDoorW.PrintMore
section
variable {P : Program} {E : Env} {o : Oper} {s : St} {a : Act} {w0 w w' : World} {O0 : Nat → Prop} {nt : Nat} {g : Nat → Value} {K : St → Option AV} {r : AV}
theorem Roo.dry {B B' : Nat} {O O' : Nat → Prop} {f : Bool} {k : IntKind} {xs : List Int} {A : Option Addr} {c : Nat} (h : Roo B w O f k xs A c) (hO : ∀ b, O' b → O b) : Roo B' w O' false k xs A c :=
 ⟨h.le, h.mx, fun hp => by
  obtain ⟨b, off, rfl, hb, ho, _, hc⟩ := h.at_ hp
  exact ⟨b, off, rfl, hb, fun e => ho (hO b e), fun e => absurd e (by simp), hc⟩⟩
theorem Cb {B : Nat} {O' : Nat → Prop} {e : TypeId} {k : IntKind} {xs : List Int} {v : Value} (h : w.ownsRow B e 1 v xs.length (nums k xs)) (hO : ∀ b, ¬ O' b) : ∃ A c, v = .slice A xs.length c ∧ Roo B w O' true k xs A c := by
 obtain ⟨A, c, hv, hr⟩ := BI h
 rcases h.2 with ⟨h1, h2⟩ | ⟨q, cap, cur, h1, hb, hh, hle, _⟩
 ·rw [h1] at hv
  injection hv with e1 e2 e3
  subst e1
  subst e3
  exact ⟨none, 0, by rw [h1, h2], by omega, hr.2.1, fun hp => by omega⟩
 ·rw [h1] at hv
  injection hv with e1 e2 e3
  subst e1
  subst e3
  refine ⟨_, cap, h1, hle, hr.2.1, fun hp => ⟨q, 0, rfl, (Array.getElem?_eq_some_iff.1 hh).1, hO q, fun _ => hb, fun j hj => ?_⟩⟩
  obtain ⟨ad, e1, hc⟩ := hr.2.2 hp
  obtain rfl := Option.some.inj e1
  have := hc j hj
  rwa [Addr.add_lit] at this
mutual
theorem Pm (hS : Sim w0 O0 nt s a w g) {B : Nat} {O' : Nat → Prop} (hO : ∀ b, O' b → Wet O0 s.h g b) : ∀ {x y : AV} {v : Value}, VR w0.heap.size w (Wet O0 s.h g) (Dom s.h) g x v → (JJ x = false → ∀ b, ¬ O' b) → low s x = some y → VR B w O' no0 g0 (dry y) v
 | .v x, y, v, hx, hown, h => by obtain rfl := Option.some.inj h; cases hx; exact .v _
 | .ro f k xs, y, v, hx, hown, h => by
  obtain rfl := Option.some.inj h
  cases hx with
  | ro _ _ _ A c hr => exact .ro _ _ _ _ _ (hr.dry hO)
 | .own n, y, v, hx, hown, h => by
  unfold low at h
  split at h
  ·rename_i k e xs hb
   obtain rfl := Option.some.inj h
   cases hx with
   | own _ hd =>
    obtain ⟨A, c, hv, hr⟩ := Cb (hS.hp n _ hb) (hown rfl)
    rw [hv]
    exact .ro _ _ _ _ _ (hr.dry (fun b e => e))
  ·cases h
 | .agg l, y, v, hx, hown, h => by
  unfold low at h
  split at h
  ·rename_i m hm
   obtain rfl := Option.some.inj h
   cases hx with
   | agg _ vs hs => exact .agg _ _ (xX hS hO hs hown hm)
  ·cases h
 | .tup l, y, v, hx, hown, h => by
  unfold low at h
  split at h
  ·rename_i m hm
   obtain rfl := Option.some.inj h
   cases hx with
   | tup _ vs hs => exact .tup _ _ (xX hS hO hs hown hm)
  ·cases h
 | .ptr n i, y, v, hx, hown, h => by cases h
 | .ept n i, y, v, hx, hown, h => by cases h
 | .rpt x, y, v, hx, hown, h => by cases h
 | .top, y, v, hx, hown, h => by cases h
 | .new e k xs, y, v, hx, hown, h => by cases h
theorem xX (hS : Sim w0 O0 nt s a w g) {B : Nat} {O' : Nat → Prop} (hO : ∀ b, O' b → Wet O0 s.h g b) : ∀ {l m : List AV} {vs : List Value}, VRs w0.heap.size w (Wet O0 s.h g) (Dom s.h) g l vs → (nO l = false → ∀ b, ¬ O' b) → Af s l = some m → VRs B w O' no0 g0 (IG m) vs
 | [], m, vs, hx, hown, h => by obtain rfl := Option.some.inj h; cases hx; exact .nil
 | x :: l, m, vs, hx, hown, h => by
  unfold Af at h
  cases hx with
  | cons _ v _ us h1 h2 =>
   split at h
   ·cases h
   ·rename_i y hy
    split at h
    ·rename_i m' hm
     obtain rfl := Option.some.inj h
     refine .cons _ _ _ _ (Pm hS hO h1 (fun e => hown (by simp [nO, e])) hy) (xX hS hO h2 (fun e => hown ?_) hm)
     simp only [nO, e]
     split <;> rfl
    ·cases h
end
theorem GY {B : Nat} {O D : Nat → Prop} : ∀ {ts : List TypeId} {l : List AV} {vs : List Value}, VRs B w O D g l vs → VRs B w O D g (JG E ts l) vs
 | [], l, vs, h => by cases l <;> exact h
 | t :: ts, [], vs, h => h
 | t :: ts, x :: l, vs, h => by
  cases h with
  | cons _ v _ us h1 h2 => exact .cons _ _ _ _ (qF t h1) (GY h2)
theorem xw : ∀ {ts : List TypeId} {l : List AV}, nO (JG E ts l) = false → nO l = false
 | [], l, h => by cases l <;> exact h
 | t :: ts, [], h => h
 | t :: ts, x :: l, h => by
  simp only [JG, nO] at h ⊢
  split at h
  ·rename_i hx
   split
   ·exact xw h
   ·rfl
  ·rename_i hx
   split
   ·rename_i hy
    exfalso
    unfold rZ at hx
    split at hx
    ·split at hx
     ·simp [JJ] at hx
     ·rw [hy] at hx; cases hx
    ·rw [hy] at hx; cases hx
   ·rfl
mutual
theorem E8 (hS : Sim w0 O0 nt s a w g) {O' : Nat → Prop} (hw : Below w.heap.size w w') : ∀ {x : AV} {v : Value}, VR w.heap.size w' O' no0 g0 x v → (fresh x = true ∨ ∀ b, Wet O0 s.h g b → O' b) → VR w0.heap.size w' (Wet O0 s.h g) (Dom s.h) g x v
 | .v x, v, hx, hf => by cases hx; exact .v _
 | .ro f k xs, v, hx, hf => by
  cases hx with
  | ro _ _ _ A c hr =>
   refine .ro _ _ _ _ _ ⟨hr.le, hr.mx, fun hp => ?_⟩
   obtain ⟨b, off, hA, hb, ho, hfr, hc⟩ := hr.at_ hp
   refine ⟨b, off, hA, hb, fun hwet => ?_, fun e => Nat.le_trans hS.be.size (hfr e), hc⟩
   rcases hf with hf | hf
   ·have h1 := hfr hf
    rcases hwet with h2 | h2
    ·have := hS.o0 b h2
     have := hS.be.size
     omega
    ·have := (hS.GL h2).2
     omega
   ·exact ho (hf b hwet)
 | .agg l, v, hx, hf => by cases hx with | agg _ vs hs => exact .agg _ _ (xY hS hw hs hf)
 | .tup l, v, hx, hf => by cases hx with | tup _ vs hs => exact .tup _ _ (xY hS hw hs hf)
 | .own n, v, hx, hf => by cases hx with | own _ hd => exact hd.elim
 | .ptr n i, v, hx, hf => by cases hx with | ptr _ _ b hd hg => exact hd.elim
 | .ept n i, v, hx, hf => by cases hx with | ept _ _ b l c hd hg hl => exact hd.elim
 | .rpt x, v, hx, hf => by
  cases hx with
  | rpt _ b off hb ho hc =>
   rcases hf with hf | hf
   ·cases hf
   ·exact .rpt _ b off hb (fun e => ho (hf b e)) hc
 | .top, v, hx, hf => .top _
 | .new e k xs, v, hx, hf => by
  cases hx with
  | new _ _ _ _ hr ho =>
   rcases hf with hf | hf
   ·cases hf
   ·exact .new _ _ _ _ (yK hr hS.be.size (fun b hb hl => rfl)) (fun b hb e => ho b hb (hf b e))
theorem xY (hS : Sim w0 O0 nt s a w g) {O' : Nat → Prop} (hw : Below w.heap.size w w') : ∀ {l : List AV} {vs : List Value}, VRs w.heap.size w' O' no0 g0 l vs → (yP l = true ∨ ∀ b, Wet O0 s.h g b → O' b) → VRs w0.heap.size w' (Wet O0 s.h g) (Dom s.h) g l vs
 | [], vs, hx, hf => by cases hx; exact .nil
 | x :: l, vs, hx, hf => by
  cases hx with
  | cons _ v _ us h1 h2 =>
   rcases hf with hf | hf
   ·simp only [yP] at hf
    split at hf
    ·rename_i hx; exact .cons _ _ _ _ (E8 hS hw h1 (.inl hx)) (xY hS hw h2 (.inl hf))
    ·cases hf
   ·exact .cons _ _ _ _ (E8 hS hw h1 (.inr hf)) (xY hS hw h2 (.inr hf))
end
theorem Ba {B B' : Nat} {w w' : World} {O O' D D' : Nat → Prop} {g g' : Nat → Value} : ∀ {l : List AV} {vs : List Value}, EW l = true → VRs B w O D g l vs → VRs B' w' O' D' g' l vs
 | [], vs, h, hx => by cases hx; exact .nil
 | .v x :: l, vs, h, hx => by cases hx with | cons _ v _ us h1 h2 => cases h1; exact .cons _ _ _ _ (.v _) (Ba h h2)
 | .ro _ _ _ :: l, vs, h, hx => by cases h
 | .own _ :: l, vs, h, hx => by cases h
 | .ptr _ _ :: l, vs, h, hx => by cases h
 | .ept _ _ :: l, vs, h, hx => by cases h
 | .rpt _ :: l, vs, h, hx => by cases h
 | .top :: l, vs, h, hx => by cases h
 | .agg _ :: l, vs, h, hx => by cases h
 | .tup _ :: l, vs, h, hx => by cases h
 | .new _ _ _ :: l, vs, h, hx => by cases h
def su (P : Program) (G : World → Prop) : List (FuncId × (List AV → (AV → Option AV) → Option AV)) → Prop
 | [] => True
 | p :: r => jR P G p.1 p.2 ∧ su P G r
theorem su.at_ {G : World → Prop} {l : List (FuncId × (List AV → (AV → Option AV) → Option AV))} (h : su P G l) {f : FuncId} {app : List AV → (AV → Option AV) → Option AV} (hl : lk f l = some app) : jR P G f app := by
 induction l with
 | nil => simp [lk] at hl
 | cons p r ih =>
  unfold lk at hl
  split at hl
  ·rename_i hb
   obtain rfl := Option.some.inj hl
   rw [← Nat.eq_of_beq_eq_true hb]
   exact h.1
  ·exact ih h.2 hl
theorem MZ {G : World → Prop} {f : FuncId} {args : Array Operand} {ts : Array TypeId} (ho : o.op = .call { callee := .value (.func f), args := args, argTypes := ts }) (hF : su P G E.fn) (hG : G w) (hS : Sim w0 O0 nt s a w g) (hn : E.nt = nt) (h : exec E o s K = some r) : ∃ s', K s' = some r ∧ Does P w0 O0 nt o a w s' := by
 unfold exec at h
 rw [ho] at h
 dsimp only at h
 split at h
 ·rename_i l app hev hfn
  have hvs := uK hS hev
  obtain ⟨⟨fn, hfun, hname, hbody⟩, hA⟩ := hF.at_ hfn
  split at h
  ·rename_i l' hl'
   have key : ∃ O' : Nat → Prop, (∀ b, O' b → Wet O0 s.h g b) ∧ (nO l = false → ∀ b, ¬ O' b) ∧ (nO l = true → ∀ b, Wet O0 s.h g b → O' b) := by
    cases hno : nO l with
    | true => exact ⟨Wet O0 s.h g, fun b h => h, fun e => by simp at e, fun _ b h => h⟩
    | false => exact ⟨fun _ => False, fun b h => h.elim, fun _ b h => h, fun e => by simp at e⟩
   obtain ⟨O', hO1, hO2, hO3⟩ := key
   have hlt : ∀ b, O' b → b < w.heap.size := fun b hb => by
    rcases hO1 b hb with h1 | h1
    ·have := hS.o0 b h1; have := hS.be.size; omega
    ·exact (hS.GL h1).2
   obtain ⟨x, hx, hc⟩ := hA (IG l') (args.toList.map a.eval) w O' _ r hG hlt (xX hS hO1 (GY hvs) (fun e => hO2 (xw e)) hl') h
   have hput : ∃ s', K s' = some r ∧ ∀ (v : Value) (w' : World), Below w.heap.size w w' → VR w.heap.size w' O' no0 g0 x v → ∃ g', Sim w0 O0 nt s' (a.put o.dst v) w' g' := by
    split at hx
    ·rename_i e k xs
     obtain ⟨n, s', hK, hsim⟩ := DJ hS hn hx
     refine ⟨s', hK, fun v w' hw hv => ?_⟩
     cases hv with
     | new _ _ _ _ hr ho => exact ⟨_, hsim v v w' hw (fun k hk => (yL hr hk).1) (yK hr hS.be.size (fun _ _ _ => rfl)) (BX n _ _ _ ⟨_, lD⟩ upd_same)⟩
    ·rename_i e k xs m
     split at hx
     ·rename_i hp
      obtain ⟨n, s', hK, hsim⟩ := DJ hS hn hx
      refine ⟨s', hK, fun v w' hw hv => ?_⟩
      cases hv with
      | tup _ vs hs =>
       cases hs with
       | cons _ u _ us h1 h2 =>
        cases h1 with
        | new _ _ _ _ hr ho => exact ⟨_, hsim u _ w' hw (fun k hk => (yL hr hk).1) (yK hr hS.be.size (fun _ _ _ => rfl)) (.tup _ _ (.cons _ _ _ _ (BX n _ _ _ ⟨_, lD⟩ upd_same) (Ba hp h2)))⟩
     ·cases hx
    ·split at hx
     ·rename_i hfr
      have hfr' : fresh x = true ∨ ∀ b, Wet O0 s.h g b → O' b := by
       have hfr2 : fresh x = true ∨ nO l = true := by simpa using hfr
       rcases hfr2 with h1 | h1
       ·exact .inl h1
       ·exact .inr (hO3 h1)
      unfold lY at hx
      split at hx
      ·rename_i hd; exact ⟨s, hx, fun v w' hw hv => ⟨g, by rw [hd]; exact (hS.world hw).yM v⟩⟩
      ·rename_i d hd
       split at hx
       ·rename_i hb
        have h9 := Nat.le_of_ble_eq_true hb
        exact ⟨_, hx, fun v w' hw hv => ⟨g, by rw [hd]; exact (hS.world hw).put (by omega) (E8 hS hw hv hfr')⟩⟩
       ·cases hx
     ·cases hx
   obtain ⟨s', hK, hsim⟩ := hput
   refine ⟨s', hK, ?_⟩
   unfold Does
   rw [show yS o.op = .m by rw [ho]; rfl]
   show o.wp P a w _ _
   have hrun : (execOp a.eval o).run P w = .ok (.enter f ⟨args.toList.map a.eval⟩) w := by
    have e1 : (⟨args.toList.map a.eval⟩ : Array Value) = args.map a.eval := (t_ rfl).symm
    rw [e1]
    have e2 : execOp a.eval o = callFunc f (#[] ++ args.map a.eval ++ #[]) := by
     unfold execOp
     rw [ho]
     rfl
    rw [e2]
    unfold callFunc
    simp only [Sem.run_bind]
    rw [show (program : Sem Program).run P w = .ok P w from rfl]
    simp only [Result.andThen_ok, hfun]
    rw [if_neg (by simp [hname]), if_neg (by simp [hbody])]
    simp
   unfold Oper.wp
   rw [hrun]
   refine Calls.mono hc ?_
   rintro e w' ⟨v, rfl, hv, hw⟩
   exact ⟨hw, hsim v w' hw hv⟩
  ·cases h
 ·cases h
end
end Go.Proofs.YtafikkmnkeddpaaGreatDoor.E
namespace Go.Proofs.YtafikkmnkeddpaaGreatDoor.E
open Go.RowKit Go.Proofs.YtafikkmnkeddpaaGreatDoorW.PrintWords Go.Proofs.YtafikkmnkeddpaaGreatDoorW.PrintLast Go.Proofs.YtafikkmnkeddpaaGreatDoorW.PrintMore
section
variable {P : Program} {E : Env} {o : Oper} {s : St} {a : Act} {w0 w w' : World} {O0 : Nat → Prop} {nt : Nat} {g : Nat → Value} {K : St → Option AV} {r : AV}
theorem sD {n m : Nat} {b : Blk} {h : List (Nat × Blk)} (hd : Dom h n) : Dom ((n, b) :: h) m ↔ Dom h m := by
 by_cases e : n = m
 ·subst e; exact ⟨fun _ => hd, fun _ => ⟨b, lD⟩⟩
 ·constructor
  ·rintro ⟨x, hx⟩; rw [kG e] at hx; exact ⟨x, hx⟩
  ·rintro ⟨x, hx⟩; exact ⟨x, by rw [kG e]; exact hx⟩
theorem JZ {n : Nat} {b : Blk} {h : List (Nat × Blk)} (hd : Dom h n) {q : Nat} : Wet O0 ((n, b) :: h) g q ↔ Wet O0 h g q := by
 unfold Wet O7
 constructor
 ·rintro (h1 | ⟨m, hm, hk⟩)
  ·exact .inl h1
  ·exact .inr ⟨m, (sD hd).1 hm, hk⟩
 ·rintro (h1 | ⟨m, hm, hk⟩)
  ·exact .inl h1
  ·exact .inr ⟨m, (sD hd).2 hm, hk⟩
structure Wrote (w w' : World) (q : Nat) : Prop where
 os : w'.os = w.os
 tape : w'.tape = w.tape
 output : w'.output = w.output
 size : w'.heap.size = w.heap.size
 block : ∀ k, k ≠ q → w'.heap[k]? = w.heap[k]?
theorem Bc (w : World) (q : Nat) (c : Array Value) : Wrote w (w.setRow q c) q :=
 ⟨rfl, rfl, rfl, by simp [World.setRow], fun k hk => setRow_other w q k c hk⟩
theorem DK (hS : Sim w0 O0 nt s a w g) {n q : Nat} (hd : Dom s.h n) (hq : bk (g n) = some q) (hw : Wrote w w' q) (b' : Blk) :
  (∀ k, k < w.heap.size → ¬ Wet O0 s.h g k → ¬ Wet O0 ((n, b') :: s.h) g k ∧ w'.heap[k]? = w.heap[k]?) ∧ (∀ m, Dom s.h m → Dom ((n, b') :: s.h) m ∧ g m = g m) :=
 ⟨fun k _ ho => ⟨fun e => ho ((JZ hd).1 e), hw.block k (fun e => ho (.inr ⟨n, hd, by rw [e]; exact hq⟩))⟩, fun m hm => ⟨(sD hd).2 hm, rfl⟩⟩
theorem DL (hS : Sim w0 O0 nt s a w g) {n q : Nat} (hd : Dom s.h n) (hq : bk (g n) = some q) (hw : Wrote w w' q) {b' : Blk}
  (hb : rQ w0.heap.size w' (Wet O0 ((n, b') :: s.h) g) (Dom ((n, b') :: s.h)) g (g n) b') : Sim w0 O0 nt ⟨s.t, (n, b') :: s.h⟩ a w' g := by
 obtain ⟨h1, h2⟩ := DK hS hd hq hw b'
 have hqlt : w0.heap.size ≤ q := by
  obtain ⟨x, hx⟩ := hd
  exact ((hS.hp n x hx).rU hq).1
 refine ⟨hS.o0, hS.sz, hS.df, hS.be.trans ⟨hw.os, hw.tape, hw.output, Nat.le_of_eq hw.size.symm, fun k hk => hw.block k (by omega)⟩, fun t x hx => (hS.tm t x hx).tr (Nat.le_of_eq hw.size.symm) h1 h2 (Nat.le_refl _), fun m c hm => ?_, fun p m hp hm k hk1 hk2 => hS.ne p m ((sD hd).1 hp) ((sD hd).1 hm) k hk1 hk2⟩
 by_cases e : n = m
 ·subst e
  rw [lD] at hm
  obtain rfl := Option.some.inj hm
  exact hb
 ·rw [kG e] at hm
  refine (hS.hp m c hm).tr (Nat.le_of_eq hw.size.symm) h1 h2 (fun k hk => hw.block k (fun e2 => e ?_))
  exact hS.ne n m hd ⟨c, hm⟩ q hq (by rw [hk, e2])
theorem DN : ∀ {us : List Value} {i : Nat} {vs : List Value}, i + us.length ≤ vs.length → oI vs i us = vs.take i ++ us ++ vs.drop (i + us.length)
 | [], i, vs, h => by simp [oI]
 | u :: us, i, vs, h => by
  simp only [List.length_cons] at h
  have hi : i < vs.length := by omega
  unfold oI
  rw [DN (by simp; omega), List.take_succ_eq_append_getElem (by simpa using hi), List.take_set_of_le (Nat.le_refl _), List.drop_set_of_lt (by omega)]
  simp
  congr 1
  omega
theorem ng.sizeOf {t : TypeId} {ti : TI} (h : ng P t ti) (w : World) : (sizeOf t).run P w = .ok ti.zero.length w := by
 by_cases hst : ∃ zs fs, ti = .st zs fs
 ·obtain ⟨zs, fs, rfl⟩ := hst
  obtain ⟨F, hu, hinfo, hF⟩ := h
  obtain ⟨i, hi, hz, hsz⟩ := oV hinfo
  rw [run_sizeOf w hi]; simp [Program.cellsOf, hi, hsz, TI.zero]
 ·obtain ⟨d, hu, hd, x, z, hi, hz, hxz, hsz, hf⟩ := h.one (fun zs fs e => hst ⟨zs, fs, e⟩)
  rw [run_sizeOf w hi]; simp [Program.cellsOf, hi, hsz, hz]
theorem GZ (hS : Sim w0 O0 nt s a w g) : ∀ {zs : List AV} {us : List Value}, VRs w0.heap.size w (Wet O0 s.h g) (Dom s.h) g zs us → fits zs = true → ∀ u ∈ us, u.oneCell' = true
 | [], us, h, hf => by cases h; simp
 | z :: zs, us, h, hf => by
  cases h with
  | cons _ u _ us' h1 h2 =>
   unfold fits at hf
   split at hf
   ·rename_i hz
    intro x hx
    rcases List.mem_cons.1 hx with rfl | hx
    ·exact (yV hS h1 hz).2
    ·exact GZ hS h2 hf x hx
   ·cases hf
theorem rV {t : TypeId} {n : Nat} (hsz : ∀ w : World, (sizeOf t).run P w = .ok n w) {v : Value} {us : List Value} (hv : v.cells = ⟨us⟩) (hn : us.length = n) {b off : Nat} {vs : List Value} {ty : TypeId} (hh : w.heap[b]? = some (.cells ⟨vs⟩ ty (0, 0))) (hle : off + us.length ≤ vs.length) (h1 : ∀ u ∈ us, u.oneCell' = true) :
  (storeVar t ⟨b, off, none⟩ v).run P w = .ok () (w.setRow b ⟨oI vs off us⟩) := by
 have := run_storeCells_at (P := P) b off ty us 0 ⟨vs⟩ w hh (by simpa using hle) h1
 simp only [Nat.add_zero] at this
 rw [DN hle]
 unfold storeVar
 simp only [Sem.run_bind, hsz, Result.andThen_ok]
 rw [if_neg (by rw [hv]; simp [hn])]
 rw [hv]
 simpa using this
theorem J3 (hk : yS o.op = .w) {s' : St} (hK : K s' = some r) (hrun : (execOp a.eval o).run P w = .ok .skip w') (hd : o.dst = none) (h : Sim w0 O0 nt s' a w' g) : ∃ s', K s' = some r ∧ Does P w0 O0 nt o a w s' := by
 refine ⟨s', hK, ?_⟩
 unfold Does
 rw [hk]
 show o.wp P a w _ _
 unfold Oper.wp
 rw [hrun]
 exact ⟨g, by rw [hd]; exact h.yM _⟩
end
end Go.Proofs.YtafikkmnkeddpaaGreatDoor.E
namespace Go.Proofs.YtafikkmnkeddpaaGreatDoor.E
open Go.RowKit Go.Proofs.YtafikkmnkeddpaaGreatDoorW.PrintWords Go.Proofs.YtafikkmnkeddpaaGreatDoorW.PrintLast Go.Proofs.YtafikkmnkeddpaaGreatDoorW.PrintMore
section
variable {P : Program} {E : Env} {o : Oper} {s : St} {a : Act} {w0 w w' : World} {O0 : Nat → Prop} {nt : Nat} {g : Nat → Value} {K : St → Option AV} {r : AV}
theorem J4 {t : TypeId} {x y : Operand} (ho : o.op = .store t x y) (hT : kL P E.ty) (hS : Sim w0 O0 nt s a w g) (hn : E.nt = nt) (h : exec E o s K = some r) : ∃ s', K s' = some r ∧ Does P w0 O0 nt o a w s' := by
 unfold exec at h
 rw [ho] at h
 dsimp only at h
 have hk : yS o.op = .w := by rw [ho]; rfl
 split at h
 ·
  rename_i n off z hdst hax hay
  have hx := jV hS hax
  have hy := jV hS hay
  generalize hv : a.eval x = v at hx
  cases hx with
  | ptr _ _ b hd hg =>
   split at h
   ·rename_i l hl
    obtain ⟨b2, vs, ty, hg2, hB, hh, hr⟩ := hS.hp n _ hl
    rw [hg] at hg2
    obtain rfl : b = b2 := by injection hg2 with e; injection e with e; injection e
    have hq : bk (g n) = some b := by rw [hg]; rfl
    have fin : ∀ {ti : TI} {zs : List AV} {us : List Value}, lk t E.ty = some ti → us.length = ti.zero.length → (a.eval y).cells = ⟨us⟩ → VRs w0.heap.size w (Wet O0 s.h g) (Dom s.h) g zs us → (∀ u ∈ us, u.oneCell' = true) → off + zs.length ≤ l.length → K ⟨s.t, (n, .cells (over l off zs)) :: s.h⟩ = some r → ∃ s', K s' = some r ∧ Does P w0 O0 nt o a w s' := fun {ti zs us} hty hlen hc hzs h1 hle hK => by
     have hle' : off + us.length ≤ vs.length := by rw [← hzs.length, ← hr.length]; exact hle
     have hrun := rV (P := P) (w := w) (hT.at_ hty).sizeOf hc hlen hh hle' h1
     have hw := Bc w b ⟨oI vs off us⟩
     obtain ⟨t1, t2⟩ := DK hS hd hq hw (.cells (over l off zs))
     refine J3 hk hK (w' := w.setRow b ⟨oI vs off us⟩) ?_ hdst (DL hS hd hq hw ?_)
     ·simp only [execOp, ho, hv, Instr.storeAt, Instr.sureAddr, pure_bind, Sem.run_bind]
      rw [hrun]
      rfl
     ·exact ⟨b, oI vs off us, ty, hg, hB, setRow_heap w b _ _ ty _ hh, (BU hzs hr).tr (Nat.le_of_eq hw.size.symm) t1 t2 (Nat.le_refl _)⟩
    split at h
    ·rename_i zs ws fs hty
     split at h
     ·rename_i h1 h2
      have h1 := Nat.eq_of_beq_eq_true h1
      obtain ⟨h2, h3⟩ := (Bool.and_eq_true_iff).1 h2
      have h2 := Nat.le_of_ble_eq_true h2
      generalize hu : a.eval y = u at hy fin
      cases hy with
      | agg _ us hus => exact fin hty (by rw [← hus.length, h1]; simp [TI.zero]) rfl hus (GZ hS hus h3) h2 h
     ·cases h
    ·rename_i ti hnot hty
     split at h
     ·rename_i z2 h1 h2
      have h1 := Nat.eq_of_beq_eq_true h1
      have h2 := Nat.le_of_ble_eq_true h2
      have hz := qF (E := E) t hy
      split at h
      ·rename_i hf
       obtain ⟨hc, hone⟩ := yV hS hz hf
       exact fin (zs := [_]) (us := [a.eval y]) hty (by rw [h1]; rfl) hc (.cons _ _ _ _ hz .nil) (by simpa using hone) (by simp; omega) h
      ·cases h
     ·cases h
    ·cases h
   ·cases h
 ·
  rename_i n i k z hdst hax hay
  have hx := jV hS hax
  have ey := iY (jV hS hay)
  generalize hv : a.eval x = v at hx
  cases hx with
  | ept _ _ b l c hd hg hl =>
   split at h
   ·rename_i k' e xs k2 hb hty
    split at h
    ·rename_i hkk
     obtain rfl := tZ hkk
     have hrow : w.ownsRow w0.heap.size e 1 (g n) xs.length (nums k xs) := hS.hp n _ hb
     have hq : bk (g n) = some b := by rw [hg]; rfl
     obtain ⟨hlen, hrow⟩ := hrow
     obtain ⟨b2, cap, cur, he, hB, hh, hcap, hmx, hsz, htk⟩ := hrow.resolve_left (fun e => by rw [hg] at e; cases e.1)
     rw [hg] at he
     injection he with he1 he2 he3
     injection he1 with he1
     injection he1 with he1
     subst he1
     subst he2
     have hile : i.toNat + [Value.int k z].length ≤ cur.toList.length := by simp; omega
     have hrun := rV (P := P) (w := w) (hT.at_ hty).sizeOf (v := .int k z) (us := [.int k z]) rfl rfl (b := b) (off := i.toNat) (vs := cur.toList) (ty := e) (by simpa using hh) hile (by simp [Value.oneCell'])
     have hw := Bc w b ⟨oI cur.toList i.toNat [.int k z]⟩
     refine J3 hk h (w' := w.setRow b ⟨oI cur.toList i.toNat [.int k z]⟩) ?_ hdst (DL hS hd hq hw ?_)
     ·simp only [execOp, ho, hv, ey, Instr.storeAt, Instr.sureAddr, pure_bind, Sem.run_bind]
      rw [hrun]
      rfl
     ·refine ⟨by simp [nums], .inr ⟨b, c, _, by rw [hg]; simp, hB, setRow_heap w b _ _ e _ hh, ?_, ?_, ?_, ?_⟩⟩
      ·rw [← he3] at hcap; simpa using hcap
      ·rw [he3]; exact hmx
      ·rw [he3]; simpa [oI] using hsz
      ·show (oI cur.toList i.toNat [.int k z]).take _ = _
       simp only [oI, List.length_set, List.take_set, htk]
       simp [nums, List.map_set]
    ·cases h
   ·cases h
 ·cases h
end
end Go.Proofs.YtafikkmnkeddpaaGreatDoor.E
namespace Go.Proofs.YtafikkmnkeddpaaGreatDoor.E
open Go.RowKit Go.Proofs.YtafikkmnkeddpaaGreatDoorW.PrintWords Go.Proofs.YtafikkmnkeddpaaGreatDoorW.PrintLast Go.Proofs.YtafikkmnkeddpaaGreatDoorW.PrintMore
section
variable {P : Program} {E : Env} {o : Oper} {s : St} {a : Act} {w0 w w' : World} {O0 : Nat → Prop} {nt : Nat} {g : Nat → Value} {K : St → Option AV} {r : AV}
theorem y8 {α β : Type} {f : α → β} {n : Nat} : ∀ {l : List (Nat × α)}, lk n (l.map fun x => (x.1, f x.2)) = (lk n l).map f
 | [] => rfl
 | p :: r => by
  simp only [List.map_cons, lk]
  split
  ·rfl
  ·exact y8
theorem E_ {B : Nat} {e : TypeId} {k : IntKind} {xs : List Int} {v : Value} (h : w.ownsRow B e 1 v xs.length (nums k xs)) : bk v = v.ownBlock := by
 rcases h.2 with ⟨rfl, _⟩ | ⟨q, cap, cur, rfl, _⟩ <;> rfl
mutual
theorem G5 {B : Nat} {O O' D D' : Nat → Prop} {g g' : Nat → Value} {n : Nat} (h1 : w.heap.size ≤ w'.heap.size) (h2 : ∀ b, b < w.heap.size → ¬ O b → ¬ O' b ∧ w'.heap[b]? = w.heap[b]?) (h3 : ∀ m, m ≠ n → D m → D' m ∧ g' m = g m) (hp : ∀ b, g n ≠ .pointer b) : ∀ {x : AV} {v : Value}, VR B w O D g x v → VR B w' O' D' g' (kill n x) v
 | .v x, v, h => by cases h; exact .v _
 | .ro f k xs, v, h => by cases h with | ro _ _ _ A c hr => exact .ro _ _ _ _ _ (hr.tr h1 h2 (Nat.le_refl _))
 | .own m, v, h => by
  cases h with
  | own _ hd =>
   unfold kill
   split
   ·exact .top _
   ·rename_i hb
    obtain ⟨d, e⟩ := h3 m (fun e => by subst e; simp at hb) hd
    rw [← e]
    exact .own _ d
 | .ept m i, v, h => by
  cases h with
  | ept _ _ b l c hd hg hl =>
   unfold kill
   split
   ·exact .top _
   ·rename_i hb
    obtain ⟨d, e⟩ := h3 m (fun e => by subst e; simp at hb) hd
    exact .ept _ _ b l c d (by rw [e]; exact hg) hl
 | .ptr m i, v, h => by
  cases h with
  | ptr _ _ b hd hg =>
   obtain ⟨d, e⟩ := h3 m (fun e => by subst e; exact hp _ hg) hd
   exact .ptr _ _ b d (by rw [e]; exact hg)
 | .rpt x, v, h => by cases h with | rpt _ b off hb ho hc => exact .rpt _ b off (by omega) (h2 b hb ho).1 (by rw [tY (h2 b hb ho).2]; exact hc)
 | .top, v, h => .top _
 | .new e k xs, v, h => by cases h with | new _ _ _ _ hr ho => exact .new _ _ _ _ (yK hr (Nat.le_refl _) (fun b hb hl => (h2 b hl (ho b hb)).2)) (fun b hb => (h2 b (yL hr hb).2 (ho b hb)).1)
 | .agg l, v, h => by cases h with | agg _ vs hs => exact .agg _ _ (uY h1 h2 h3 hp hs)
 | .tup l, v, h => by cases h with | tup _ vs hs => exact .tup _ _ (uY h1 h2 h3 hp hs)
theorem uY {B : Nat} {O O' D D' : Nat → Prop} {g g' : Nat → Value} {n : Nat} (h1 : w.heap.size ≤ w'.heap.size) (h2 : ∀ b, b < w.heap.size → ¬ O b → ¬ O' b ∧ w'.heap[b]? = w.heap[b]?) (h3 : ∀ m, m ≠ n → D m → D' m ∧ g' m = g m) (hp : ∀ b, g n ≠ .pointer b) : ∀ {l : List AV} {vs : List Value}, VRs B w O D g l vs → VRs B w' O' D' g' (kills n l) vs
 | [], vs, h => by cases h; exact .nil
 | x :: l, vs, h => by cases h with | cons _ v _ us hx hs => exact .cons _ _ _ _ (G5 h1 h2 h3 hp hx) (uY h1 h2 h3 hp hs)
end
theorem M_ (hS : Sim w0 O0 nt s a w g) (hn : E.nt = nt) {n : Nat} {k : IntKind} {e : TypeId} {xs zs : List Int} (hl : lk n s.h = some (.ints k e xs)) {v' : Value} (hrow : w'.ownsRow w0.heap.size e 1 v' zs.length (nums k zs)) (hgr : w.grownBy w' (g n).ownBlock) (hbk : v'.ownBlock = (g n).ownBlock ∨ v'.ownBlock = some w.heap.size)
  (h : grow E o.dst n k e zs s K = some r) : ∃ s' g', K s' = some r ∧ Sim w0 O0 nt s' (a.put o.dst v') w' g' := by
 have hold : w.ownsRow w0.heap.size e 1 (g n) xs.length (nums k xs) := hS.hp n _ hl
 have hb1 : bk (g n) = (g n).ownBlock := E_ hold
 have hb2 : bk v' = v'.ownBlock := E_ hrow
 have hdn : Dom s.h n := ⟨_, hl⟩
 have hptr : ∀ b, g n ≠ .pointer b := fun b hb => by
  obtain ⟨A, c, he⟩ := wY hold
  rw [hb] at he
  cases he
 have hD : ∀ m, Dom ((n, .ints k e zs) :: s.h.map fun x => (x.1, xu n x.2)) m ↔ Dom s.h m := fun m => by
  by_cases em : n = m
  ·subst em; exact ⟨fun _ => hdn, fun _ => ⟨_, lD⟩⟩
  ·constructor
   ·rintro ⟨x, hx⟩
    rw [kG em, y8] at hx
    obtain ⟨y, hy, _⟩ := Option.map_eq_some_iff.1 hx
    exact ⟨y, hy⟩
   ·rintro ⟨x, hx⟩
    exact ⟨xu n x, by rw [kG em, y8, hx]; rfl⟩
 have h3 : ∀ m, m ≠ n → Dom s.h m → Dom ((n, .ints k e zs) :: s.h.map fun x => (x.1, xu n x.2)) m ∧ upd g n v' m = g m := fun m hm hd => ⟨(hD m).2 hd, by simp [upd, hm]⟩
 have h2 : ∀ b, b < w.heap.size → ¬ Wet O0 s.h g b → ¬ Wet O0 ((n, .ints k e zs) :: s.h.map fun x => (x.1, xu n x.2)) (upd g n v') b ∧ w'.heap[b]? = w.heap[b]? := fun b hb ho => by
  have hne : some b ≠ (g n).ownBlock := fun e1 => ho (.inr ⟨n, hdn, by rw [hb1]; exact e1.symm⟩)
  refine ⟨fun ho' => ?_, hgr.block b hb hne⟩
  rcases ho' with ho' | ⟨m, hm, hk⟩
  ·exact ho (.inl ho')
  ·by_cases em : m = n
   ·subst em
    rw [upd_same, hb2] at hk
    rcases hbk with e1 | e1
    ·exact hne (by rw [← e1, hk])
    ·rw [e1] at hk; injection hk with hk; omega
   ·rw [(h3 m em ((hD m).1 hm)).2] at hk
    exact ho (.inr ⟨m, (hD m).1 hm, hk⟩)
 have hlow : ∀ q, (g n).ownBlock = some q → w0.heap.size ≤ q := fun q hq => ((hS.hp n _ hl).rU (by rw [hb1]; exact hq)).1
 have hsim : Sim w0 O0 nt ⟨s.t.map fun x => (x.1, kill n x.2), (n, .ints k e zs) :: s.h.map fun x => (x.1, xu n x.2)⟩ a w' (upd g n v') := by
  refine ⟨hS.o0, hS.sz, hS.df, hS.be.grown hgr hS.be.size hlow, fun t x hx => ?_, fun m c hm => ?_, fun p q hp hq b hpb hqb => ?_⟩
  ·rw [y8] at hx
   obtain ⟨y, hy, rfl⟩ := Option.map_eq_some_iff.1 hx
   exact G5 hgr.size h2 h3 hptr (hS.tm t y hy)
  ·by_cases em : n = m
   ·subst em
    rw [lD] at hm
    obtain rfl := Option.some.inj hm
    rw [upd_same]
    exact hrow
   ·rw [kG em, y8] at hm
    obtain ⟨y, hy, rfl⟩ := Option.map_eq_some_iff.1 hm
    have hg : upd g n v' m = g m := by simp [upd, Ne.symm em]
    rw [hg]
    have hne : ∀ q, bk (g m) = some q → w'.heap[q]? = w.heap[q]? := fun q hq => hgr.block q ((hS.hp m y hy).rU hq).2 (fun e1 => em (hS.ne n m hdn ⟨y, hy⟩ q (by rw [hb1]; exact e1.symm) hq))
    cases y with
    | ints k2 e2 ys =>
     have := hS.hp m _ hy
     exact this.tr hgr.size h2 (fun z hz => ⟨(hD z).2 hz, rfl⟩) hne |> fun (h9 : w'.ownsRow w0.heap.size e2 1 (g m) ys.length (nums k2 ys)) => h9
    | cells l =>
     obtain ⟨b, vs, ty, hg2, hB, hh, hr⟩ := hS.hp m _ hy
     exact ⟨b, vs, ty, hg2, hB, by rw [hne b (by rw [hg2]; rfl)]; exact hh, uY hgr.size h2 h3 hptr hr⟩
  ·by_cases ep : p = n <;> by_cases eq : q = n
   ·rw [ep, eq]
   ·subst ep
    rw [upd_same, hb2] at hpb
    rw [(h3 q eq ((hD q).1 hq)).2] at hqb
    rcases hbk with e1 | e1
    ·exact hS.ne p q hdn ((hD q).1 hq) b (by rw [hb1, ← e1]; exact hpb) hqb
    ·obtain ⟨x, hx⟩ := (hD q).1 hq
     have := ((hS.hp q x hx).rU hqb).2
     rw [e1] at hpb; injection hpb with hpb; omega
   ·subst eq
    rw [upd_same, hb2] at hqb
    rw [(h3 p ep ((hD p).1 hp)).2] at hpb
    rcases hbk with e1 | e1
    ·exact hS.ne p q ((hD p).1 hp) hdn b hpb (by rw [hb1, ← e1]; exact hqb)
    ·obtain ⟨x, hx⟩ := (hD p).1 hp
     have := ((hS.hp p x hx).rU hpb).2
     rw [e1] at hqb; injection hqb with hqb; omega
   ·rw [(h3 p ep ((hD p).1 hp)).2] at hpb
    rw [(h3 q eq ((hD q).1 hq)).2] at hqb
    exact hS.ne p q ((hD p).1 hp) ((hD q).1 hq) b hpb hqb
 obtain ⟨s', h4, h5⟩ := uU hsim hn (x := .own n) (v := v') (by have := VR.own (B := w0.heap.size) (w := w') (O := Wet O0 ((n, .ints k e zs) :: s.h.map fun x => (x.1, xu n x.2)) (upd g n v')) (D := Dom ((n, .ints k e zs) :: s.h.map fun x => (x.1, xu n x.2))) (g := upd g n v') n ⟨_, lD⟩; rwa [upd_same] at this) h
 exact ⟨s', _, h4, h5⟩
end
end Go.Proofs.YtafikkmnkeddpaaGreatDoor.E
namespace Go.Proofs.YtafikkmnkeddpaaGreatDoor.E
open Go.RowKit Go.Proofs.YtafikkmnkeddpaaGreatDoorW.PrintWords Go.Proofs.YtafikkmnkeddpaaGreatDoorW.PrintLast Go.Proofs.YtafikkmnkeddpaaGreatDoorW.PrintMore
section
variable {P : Program} {E : Env} {o : Oper} {s : St} {a : Act} {w0 w w' : World} {O0 : Nat → Prop} {nt : Nat} {g : Nat → Value} {K : St → Option AV} {r : AV}
theorem J5 (k : IntKind) (xs ys : List Int) : nums k (xs ++ ys) = nums k xs ++ nums k ys := by simp [nums]
theorem G6 {base : Nat} {t ty e : TypeId} {i : TypeInfo} {k : IntKind} {b : Nat} (ht : P.underlying t = some (.slice e)) (hi : P.info? e = some i) (hz : i.zero = some (.int k 0)) (hs : i.size = 1) (hb : i.bytes = b) (hb0 : 0 < b) {v : Value} {xs ys : List Int} (hown : w.ownsRow base e 1 v xs.length (nums k xs)) {A : Option Addr} {c : Nat} (hr : lN w k A ys.length ys) (hle : (xs.length + ys.length) * b ≤ 140737488355328) (hbase : base ≤ w.heap.size) :
  ∃ v' w', (Builtin.append_ #[t, t] ty #[v, .slice A ys.length c]).run P w = .ok v' w' ∧ w'.ownsRow base e 1 v' (xs ++ ys).length (nums k (xs ++ ys)) ∧ w.grownBy w' v.ownBlock ∧ (v'.ownBlock = v.ownBlock ∨ v'.ownBlock = some w.heap.size) := by
 have hm : xs.length + ys.length ≤ maxLen := by
  have : (xs.length + ys.length) * 1 ≤ (xs.length + ys.length) * b := Nat.mul_le_mul_left _ hb0
  simp only [maxLen]; omega
 rcases A with _ | ad
 ·have h0 : ys = [] := by
   rcases Nat.eq_zero_or_pos ys.length with h0 | h0
   ·exact List.eq_nil_of_length_eq_zero h0
   ·obtain ⟨ad, h1, _⟩ := hr.2.2 h0; cases h1
  subst h0
  refine ⟨v, w, ?_, by simpa using hown, World.grownBy.refl w _, .inl rfl⟩
  rcases hown.2 with ⟨rfl, hx⟩ | ⟨q, cap, cur, rfl, _, _, hnc, _⟩
  ·simp [Builtin.append_, run_underlying ht, sizeOf, typeInfo, hi, Builtin.lenOf, Builtin.firstCells]
  ·simp [Builtin.append_, run_underlying ht, sizeOf, typeInfo, hi, Builtin.lenOf, Builtin.firstCells, hnc, storeCells]
 ·obtain ⟨v', w', h1, h2, h3, _, h5⟩ := run_append_own_at (P := P) w base t ty e i (.int k 0) 1 b ht hi hz hs hb rfl (by omega) v xs.length (nums k xs) hown ad ys.length c (nums k ys) (by simp [nums]) (fun j u hj => by
   unfold nums at hj
   rw [List.getElem?_map] at hj
   obtain ⟨x, hx, rfl⟩ := Option.map_eq_some_iff.1 hj
   have hlt : j < ys.length := (List.getElem?_eq_some_iff.1 hx).1
   obtain ⟨ad', e1, hc⟩ := hr.2.2 (by omega)
   obtain rfl := Option.some.inj e1
   rw [hc j hlt, List.getD_eq_getElem?_getD, hx]
   rfl) (by simp [nums, Value.oneCell']) hm (by omega) hbase
  exact ⟨v', w', h1, by rw [List.length_append, J5]; exact h2, h3, h5⟩
theorem IJ {t : TypeId} {x : AV} {n : Nat} (h : rZ E t x = .own n) : x = .own n := by
 unfold rZ at h
 split at h
 ·split at h <;> cases h
 ·exact h
theorem IK {args : Array Operand} {ts : Array TypeId} (ho : o.op = .call { callee := .builtin .append, args := args, argTypes := ts }) (hT : kL P E.ty) (hS : Sim w0 O0 nt s a w g) (hn : E.nt = nt) (h : exec E o s K = some r) : ∃ s', K s' = some r ∧ Does P w0 O0 nt o a w s' := by
 unfold exec at h
 rw [ho] at h
 dsimp only at h
 have hk : yS o.op = .w := by rw [ho]; rfl
 have fin : ∀ {v' : Value} {w' : World} {s' : St} {g' : Nat → Value}, (execOp a.eval o).run P w = .ok (.value v') w' → K s' = some r → Sim w0 O0 nt s' (a.put o.dst v') w' g' → ∃ s', K s' = some r ∧ Does P w0 O0 nt o a w s' := fun {v' w' s' g'} h1 h2 h3 => by
  refine ⟨s', h2, ?_⟩
  unfold Does
  rw [hk]
  show o.wp P a w _ _
  unfold Oper.wp
  rw [h1]
  exact ⟨g', h3⟩
 split at h
 ·rename_i x y t t' hev hts
  obtain ⟨v, u, hv, hx, hy⟩ := O9 (uK hS hev)
  split at h
  ·rename_i e k b htt hty
   obtain rfl := Nat.eq_of_beq_eq_true htt
   obtain rfl : ts = #[t, t] := by cases ts; simp_all
   obtain ⟨hu, _, hinfo, _, hb0⟩ := hT.at_ hty
   obtain ⟨i, hi, hz⟩ := Option.map_eq_some_iff.1 hinfo
   simp only [Prod.mk.injEq] at hz
   obtain ⟨hz1, hz2, hz3⟩ := hz
   have hrunop : ∀ {v' : Value} {w' : World}, (Builtin.append_ #[t, t] o.type #[v, u]).run P w = .ok v' w' → (execOp a.eval o).run P w = .ok (.value v') w' := fun {v' w'} h1 => by
    simp [execOp, ho, resolve, t_ hv, invoke, builtin, h1]
   split at h
   ·rename_i n f k' ys hxn hrow
    obtain rfl := IJ hxn
    obtain ⟨A, c, rfl, hr⟩ := BR hS (qF t hy) hrow
    split at h
    ·rename_i k2 e2 xs hl hkk
     obtain rfl := tZ hkk
     split at h
     ·rename_i hkk2 hee
      obtain rfl := tZ hkk2
      obtain rfl := Nat.eq_of_beq_eq_true hee
      split at h
      ·rename_i hle
       generalize hvv : v = vv at hx hv hrunop
       cases hx with
       | own _ hd =>
        have hrow0 : w.ownsRow w0.heap.size e 1 (g n) xs.length (nums k xs) := hS.hp n _ hl
        obtain ⟨v', w', h1, h2, h3, h4⟩ := G6 (P := P) (w := w) (base := w0.heap.size) (ty := o.type) (c := c) hu hi hz1 hz2 hz3 hb0 hrow0 hr hle hS.be.size
        obtain ⟨s', g', h5, h6⟩ := M_ hS hn hl h2 h3 h4 h
        exact fin (hrunop h1) h5 h6
      ·cases h
     ·cases h
    ·cases h
   ·rename_i f2 k2 f k' ys hxn hrow
    obtain ⟨A, c, rfl, hr⟩ := BR hS (qF t hy) hrow
    split at h
    ·rename_i hkk
     obtain rfl := tZ hkk
     obtain rfl := iY hx
     split at h
     ·rename_i hle
      obtain ⟨v', w', h1, h2, h3, h4⟩ := G6 (P := P) (w := w) (base := w0.heap.size) (ty := o.type) (xs := []) (c := c) hu hi hz1 hz2 hz3 hb0 (World.ownsRow_nil w _ e 1) hr (by simpa using hle) hS.be.size
      have hbe : Below w.heap.size w w' := qX h3
      have hnew : ∀ q, bk v' = some q → w.heap.size ≤ q := fun q hq => by
       rw [E_ h2] at hq
       rcases h4 with e1 | e1
       ·rw [e1] at hq; cases hq
       ·rw [e1] at hq; injection hq with hq; omega
      obtain ⟨s', g', h5, h6⟩ := GX (b := .ints k e ys) hS hn hbe hnew (fun n _ => h2) (fun n O D g' hd hg => BX n O D g' hd hg) h
      exact fin (hrunop h1) h5 h6
     ·cases h
    ·cases h
   ·cases h
  ·cases h
 ·cases h
end
end Go.Proofs.YtafikkmnkeddpaaGreatDoor.E
namespace Go.Proofs.YtafikkmnkeddpaaGreatDoor.E
open Go.RowKit Go.Proofs.YtafikkmnkeddpaaGreatDoorW.PrintWords Go.Proofs.YtafikkmnkeddpaaGreatDoorW.PrintLast Go.Proofs.YtafikkmnkeddpaaGreatDoorW.PrintMore
section
variable {P : Program} {E : Env} {o : Oper} {s : St} {a : Act} {w0 w w' : World} {O0 : Nat → Prop} {nt : Nat} {g : Nat → Value} {K : St → Option AV} {r : AV}
theorem xZ {G : World → Prop} (hT : kL P E.ty) (hF : su P G E.fn) (hG : G w) (hS : Sim w0 O0 nt s a w g) (hn : E.nt = nt) (h : exec E o s K = some r) : ∃ s', K s' = some r ∧ Does P w0 O0 nt o a w s' := by
 have no : exec E o s K = none → ∃ s', K s' = some r ∧ Does P w0 O0 nt o a w s' := fun e => by rw [e] at h; cases h
 cases ho : o.op with
 | move x => exact GV (.inl ho) hS hn h
 | assign x => exact GV (.inr ho) hS hn h
 | pick c x y => exact MS ho hS hn h
 | alloc e => exact JY ho hT hS hn h
 | box e x => exact Pj ho hT hS hn h
 | build t ps => exact JU ho hT hS hn h
 | buildSlice t n ps => exact Ag ho hT hS hn h
 | load t x => exact MW ho hT hS hn h
 | store t x y => exact J4 ho hT hS hn h
 | binOp op t x y t' => exact JM hT ho hS hn h
 | unOp op t x => exact MV ho hS hn h
 | convert src dst x => exact EZ ho hT hS hn h
 | makeSlice t l c => exact B_ ho hT hS hn h
 | slice t x lo hi mx =>
  cases mx with
  | none => exact ok_slice ho hT hS hn h
  | some m => exact no (by unfold exec; rw [ho])
 | fieldAddr t x f => exact BP ho hT hS hn h
 | field t x f => exact JO ho hT hS hn h
 | indexAddr t x i => exact BQ ho hT hS hn h
 | index t x i => exact JQ ho hT hS hn h
 | extract x i => exact EY ho hS hn h
 | call c =>
  obtain ⟨cal, args, ts⟩ := c
  cases cal with
  | value f =>
   cases f with
   | func f => exact MZ ho hF hG hS hn h
   | _ => exact no (by unfold exec; rw [ho])
  | invoke x m => exact no (by unfold exec; rw [ho])
  | builtin b =>
   cases b with
   | len => exact O_ ho hT hS hn h
   | min => exact Pg ho hS hn h
   | max => exact Ph ho hS hn h
   | append => exact IK ho hT hS hn h
   | _ => exact no (by unfold exec; rw [ho])
 | _ => exact no (by unfold exec; rw [ho])
theorem yc {K' : Act → World → Prop} {Q : Exit → Act → World → Prop} (h : o.wp P a w K' (fun _ _ _ => False)) : o.wp P a w K' Q := by
  unfold Oper.wp at *
  generalize (execOp a.eval o).run P w = x at *
  cases x with
  | ok n w1 =>
    cases n <;> simp only [Oper.upon] at h ⊢ <;> first
      | exact h
      | (refine Calls.mono h fun e w2 he => ?_
         cases e with
         | returned v => exact he
         | panicked c => exact he.elim
         | outgrown => exact (by obtain ⟨a9, w9, h9⟩ := he; exact h9.elim))
  | halt x w1 => cases x <;> simp only [Oper.upon] at h ⊢ <;> exact h.elim
theorem Na {s' : St} {Q : Exit → Act → World → Prop} {K' : Act → World → Prop} (h : Does P w0 O0 nt o a w s') (hK : ∀ a' w' g', Sim w0 O0 nt s' a' w' g' → K' a' w') : o.wp P a w K' Q := by
 unfold Does at h
 split at h
 ·obtain ⟨v, g', hy, hs⟩ := h
  unfold Oper.wp
  rw [hy w (Below.refl _ _)]
  exact hK _ _ _ hs
 ·exact yc (Oper.wp_mono (fun a' w' ⟨_, g', hs⟩ => hK _ _ _ hs) h)
 ·exact yc (Oper.wp_mono (fun a' w' ⟨g', hs⟩ => hK _ _ _ hs) h)
structure rW (G : World → Prop) : Prop where
 go : ∀ w w', G w → Below w.heap.size w w' → G w'
theorem DR (hn : E.nt = nt) {ops : Array Oper} {l : List Oper} (hS : Sim w0 O0 nt s a w g) (h : nP E ops (o :: l) s K = some r) :
  (Region.wanted o (yielded ops a.tmps) = true ∧ ∃ s1, Sim w0 O0 nt s1 a w g ∧ (exec E o s1 fun s => nP E ops l s K) = some r) ∨
  (Region.wanted o (yielded ops a.tmps) = false ∧ ∃ s1, nP E ops l s1 K = some r ∧ Sim w0 O0 nt s1 (a.put o.dst undef) w g) := by
 unfold nP at h
 split at h
 ·rename_i hg
  exact .inl ⟨by simp [Region.wanted, hg], s, hS, h⟩
 ·rename_i j want hg
  split at h
  ·rename_i d hd
   split at h
   ·rename_i b hb hlt
    have h9 : d + 1 ≤ E.nt := Nat.le_of_ble_eq_true hlt
    have hdn : d < nt := by rw [← hn]; exact h9
    have hv := iY (hS.tm d _ hb)
    have hy : yielded ops a.tmps j = some b := by
     unfold yielded
     rw [hd]
     rw [Array.getD_eq_getD_getElem?] at hv
     simp only [Option.bind_some]
     cases he : a.tmps[d]? with
     | none => rw [he] at hv; cases hv
     | some z => rw [he] at hv; simp only [Option.getD_some] at hv; rw [hv]
    have hput : ∀ b' : Bool, b = b' → Sim w0 O0 nt ⟨(d, .v (.bool b')) :: s.t, s.h⟩ a w g := fun b' e => by
     have := hS.put hdn (x := .v (.bool b')) (v := .bool b') (.v _)
     have ha : a.put (some d) (.bool b') = a := by
      have hlt : d < a.tmps.size := by rw [hS.sz]; exact hdn
      have : a.tmps[d]? = some (.bool b') := by
       rw [Array.getD_eq_getD_getElem?, Array.getElem?_eq_getElem hlt] at hv
       rw [Array.getElem?_eq_getElem hlt, ← e]
       simpa using hv
      cases a with
      | mk tmps defers =>
       simp only [Act.put, Act.mk.injEq, and_true]
       apply Array.ext_getElem?
       intro i
       by_cases hi : d = i
       ·subst hi
        rw [Array.getElem?_setIfInBounds_self_of_lt hlt]
        exact this.symm
       ·rw [Array.getElem?_setIfInBounds_ne hi]
     rwa [ha] at this
    split at h
    ·rename_i e _
     exact .inl ⟨by simp [Region.wanted, hg, hy, e], _, hput want e, h⟩
    ·rename_i e _
     obtain ⟨s', h1, h2⟩ := uU (hput (!want) (by cases b <;> cases want <;> simp_all)) hn (v := undef) (.v _) h
     exact .inr ⟨by simp [Region.wanted, hg, hy, e], s', h1, h2⟩
   ·rename_i x hb hlt
    have hv := iY (hS.tm d _ hb)
    have hy : yielded ops a.tmps j = none := by
     unfold yielded
     rw [hd]
     rw [Array.getD_eq_getD_getElem?] at hv
     simp only [Option.bind_some]
     cases he : a.tmps[d]? with
     | none => rfl
     | some z => rw [he] at hv; simp only [Option.getD_some] at hv; rw [hv]
    obtain ⟨s', h1, h2⟩ := uU hS hn (v := undef) (.v _) h
    exact .inr ⟨by simp [Region.wanted, hg, hy], s', h1, h2⟩
   ·cases h
  ·cases h
theorem wG {G : World → Prop} (hGs : rW G) (hG0 : G w0) (hT : kL P E.ty) (hF : su P G E.fn) (hn : E.nt = nt) {ops : Array Oper} {Q : Exit → Act → World → Prop} (hQ : ∀ s' a' w' g', K s' = some r → Sim w0 O0 nt s' a' w' g' → Q .normal a' w') :
  ∀ (l : List Oper) {s : St} {a : Act} {w : World} {g : Nat → Value}, Sim w0 O0 nt s a w g → nP E ops l s K = some r → wpList P ops Q l a w
 | [], s, a, w, g, hS, h => hQ _ _ _ _ h hS
 | o :: l, s, a, w, g, hS, h => by
  unfold wpList
  rcases DR hn hS h with ⟨hw, s1, hS1, h1⟩ | ⟨hw, s1, h1, hS1⟩
  ·rw [if_pos hw]
   obtain ⟨s', h1, h2⟩ := xZ hT hF (hGs.go _ _ hG0 hS.be) hS1 hn h1
   exact .inl (Na h2 fun a' w' g' hs => wG hGs hG0 hT hF hn hQ l hs h1)
  ·rw [if_neg (by simp [hw])]
   exact wG hGs hG0 hT hF hn hQ l hS1 h1
end
end Go.Proofs.YtafikkmnkeddpaaGreatDoor.E
namespace Go.Proofs.YtafikkmnkeddpaaGreatDoor.E
open Go.RowKit Go.Proofs.YtafikkmnkeddpaaGreatDoorW.PrintWords Go.Proofs.YtafikkmnkeddpaaGreatDoorW.PrintLast Go.Proofs.YtafikkmnkeddpaaGreatDoorW.PrintMore
section
variable {P : Program} {E : Env} {s : St} {a : Act} {w0 w w' : World} {O0 : Nat → Prop} {nt : Nat} {g : Nat → Value} {K : St → Option AV} {r : AV}
variable {ops : Array Oper} {Q : Exit → Act → World → Prop} {md : Region.Mode} {ds : List Nat}
def sF (P : Program) (md : Region.Mode) (ops : Array Oper) (Q : Exit → Act → World → Prop) (ds : List Nat) : Nat → Array Bool → Act → World → Prop
 | 0, listed, a, w => Region.ready md ops listed = [] ∧ Q .normal a w
 | fuel + 1, listed, a, w =>
  (Region.ready md ops listed = [] → Q .normal a w) ∧
  ∀ i ∈ Region.ready md ops listed, wpOp P ops Q i (fun a' w' => (i ∉ ds → Below w.heap.size w w') ∧ sF P md ops Q ds fuel (listed.setIfInBounds i true) a' w') a w
theorem y9 : ∀ (fuel : Nat) (listed : Array Bool) (a : Act) (w : World), sF P md ops Q ds fuel listed a w → wpAny P md ops Q fuel listed a w
 | 0, _, _, _, h => h
 | fuel + 1, _, _, _, h => ⟨h.1, fun i hi => wpOp_mono (fun a' w' h' => y9 fuel _ a' w' h'.2) (h.2 i hi)⟩
theorem Cc {i : Nat} {oi : Oper} {v : Value} (hi : ops[i]? = some oi) (hsel : ∀ (j : Nat) (o : Oper) cs b, ops[j]? = some o → o.op ≠ .select cs b)
  (hQ : ∀ c a w, Q (.panic c) (a.put oi.dst v) w → Q (.panic c) a w) (n : Nat) (W : World) :
  ∀ (fuel : Nat) (listed : Array Bool) (a : Act) (w : World),
   (∀ j oj, ops[j]? = some oj → j ≠ i → listed.getD j true = false → (∀ e ∈ oj.after, Region.binds md e = true → e.on ≠ i) → oi.apart ops oj = true) →
   lZ md ops listed → (∀ d ∈ ds, listed.getD d true = false → Region.qB md ops i n d = true) →
   i ∈ Region.ready md ops listed → YieldsIf P ops (fun w' => Below W.heap.size W w') oi v a → Below W.heap.size W w →
   sF P md ops Q ds fuel (listed.setIfInBounds i true) (a.put oi.dst v) w → sF P md ops Q ds (fuel + 1) listed a w := by
 intro fuel
 induction fuel with
 | zero =>
  intro listed a w _ _ _ hr hy hS H
  refine ⟨fun h => (by rw [h] at hr; cases hr), fun j hj => ?_⟩
  by_cases hji : j = i
  ·subst hji; exact hy.wpOp hi hS ⟨fun _ => Below.refl _ _, H⟩
  ·have := ready_mono hj hji
   rw [H.1] at this
   cases this
 | succ fuel ih =>
  intro listed a w hfree hc hd hr hy hS H
  refine ⟨fun h => (by rw [h] at hr; cases hr), fun j hj => ?_⟩
  by_cases hji : j = i
  ·subst hji; exact hy.wpOp hi hS ⟨fun _ => Below.refl _ _, H⟩
  ·have h1 := H.2 j (ready_mono hj hji)
   obtain ⟨hjun, oj, hoj, hall⟩ := mem_ready.1 hj
   have hiun := (mem_ready.1 hr).1
   have hnot : ∀ e ∈ oj.after, Region.binds md e = true → e.on ≠ i := fun e he hb heq => by
    have h1 := hall e he hb
    rw [heq] at h1
    rcases Nat.lt_or_ge i listed.size with h' | h'
    ·simp [h'] at hiun h1; rw [hiun] at h1; cases h1
    ·simp [Array.getElem?_eq_none h'] at h1
   have hjd : j ∉ ds := fun hm => Region.xP hc (hd j hm hjun) hiun hj
   have h2 := wpOp_putIf hoj (hfree j oj hoj hji hjun hnot) (fun cs b => hsel i oi cs b hi) (fun cs b => hsel j oj cs b hoj) hQ hy h1
   have hfree' : ∀ k ok, ops[k]? = some ok → k ≠ i → (listed.setIfInBounds j true).getD k true = false →
     (∀ e ∈ ok.after, Region.binds md e = true → e.on ≠ i) → oi.apart ops ok = true := fun k ok hk hki hun hno => by
    refine hfree k ok hk hki ?_ hno
    by_cases hjk : j = k
    ·subst hjk; exact hjun
    ·rw [Go.getD_set_ne true hjk] at hun; exact hun
   have hd' : ∀ d ∈ ds, (listed.setIfInBounds j true).getD d true = false → Region.qB md ops i n d = true := fun d hm hun => by
    refine hd d hm ?_
    by_cases hjk : j = d
    ·subst hjk; exact hjun
    ·rw [Go.getD_set_ne true hjk] at hun; exact hun
   refine wpOp_mono (fun a' w' h3 => ⟨h3.2.1, ih (listed.setIfInBounds j true) a' w' hfree' (hc.set hj) hd' (ready_mono hr (Ne.symm hji)) h3.1 (hS.trans ((h3.2.1 hjd).mono hS.size)) ?_⟩) h2
   rw [Array.setIfInBounds_comm _ _ hji]
   exact h3.2.2
theorem zf {i : Nat} {o : Oper} {fuel : Nat} {listed : Array Bool} (hi : ops[i]? = some o) (hr : Region.ready md ops listed = [i])
  (h : (Region.wanted o (yielded ops a.tmps) = true ∧ o.wp P a w (fun a' w' => (i ∉ ds → Below w.heap.size w w') ∧ sF P md ops Q ds fuel (listed.setIfInBounds i true) a' w') Q) ∨
   (Region.wanted o (yielded ops a.tmps) = false ∧ sF P md ops Q ds fuel (listed.setIfInBounds i true) (a.put o.dst undef) w)) : sF P md ops Q ds (fuel + 1) listed a w := by
 refine ⟨fun h0 => (by rw [hr] at h0; cases h0), fun j hj => ?_⟩
 rw [hr] at hj
 obtain rfl : j = i := by simpa using hj
 unfold wpOp
 rw [hi]
 dsimp only
 rcases h with ⟨hw, h⟩ | ⟨hw, h⟩
 ·rw [if_pos hw]; exact .inl h
 ·rw [if_neg (by simp [hw])]; exact ⟨fun _ => Below.refl _ _, h⟩
def DT (ops : Array Oper) (ds : List Nat) : Array Bool → List Nat → Bool
 | l, [] => Region.ready .any ops l == []
 | l, i :: r => (match ops[i]? with
  | some o => (match yS o.op with
   | .y => Region.free .any ops l i && (Region.ready .any ops l).contains i && Region.Ib .any ops l && Region.lastB .any ops l ds i
   | .m => Region.ready .any ops l == [i]
   | .w => Region.ready .any ops l == [i] && ds.contains i)
  | none => false) && DT ops ds (l.setIfInBounds i true) r
def G7 (ops : Array Oper) (l : List Nat) : Bool :=
 Region.noSelect ops && Nat.beq l.length ops.size && DT ops ((List.range ops.size).filter fun i => match ops[i]? with
  | some o => (match yS o.op with
   | .w => true
   | _ => false)
  | none => false) (Array.replicate ops.size false) l
theorem wH {G : World → Prop} (hGs : rW G) (hG0 : G w0) (hT : kL P E.ty) (hF : su P G E.fn) (hn : E.nt = nt) (hsel : Region.noSelect ops = true) (hc : ∀ c a w, ¬ Q (.panic c) a w) (hQ : ∀ s' a' w' g', K s' = some r → Sim w0 O0 nt s' a' w' g' → Q .normal a' w') :
  ∀ (l : List Nat) {os : List Oper} {listed : Array Bool} {s : St} {a : Act} {w : World} {g : Nat → Value}, inOrder ops l = some os → DT ops ds listed l = true → Sim w0 O0 nt s a w g → nP E ops os s K = some r → sF P .any ops Q ds l.length listed a w
 | [], os, listed, s, a, w, g, ho, hl, hS, h => by
  obtain rfl := Option.some.inj ho
  exact ⟨by simpa [DT] using hl, hQ _ _ _ _ h hS⟩
 | i :: l, os, listed, s, a, w, g, ho, hl, hS, h => by
  unfold inOrder at ho
  split at ho
  ·rename_i o os' hi hos
   obtain rfl := Option.some.inj ho
   unfold DT at hl
   rw [hi] at hl
   obtain ⟨hk, hl⟩ := Bool.and_eq_true_iff.1 hl
   dsimp only at hk
   have hstep := DR hn hS h
   split at hk
   ·rename_i hkd
    simp only [Bool.and_eq_true] at hk
    obtain ⟨⟨⟨h1, h2⟩, h3⟩, h4⟩ := hk
    have hy : ∃ v s1 g1, YieldsIf P ops (fun w' => Below w.heap.size w w') o v a ∧ nP E ops os' s1 K = some r ∧ Sim w0 O0 nt s1 (a.put o.dst v) w g1 := by
     rcases hstep with ⟨hw, s1, hS1, h5⟩ | ⟨hw, s1, h5, hS1⟩
     ·obtain ⟨s', h6, h7⟩ := xZ hT hF (hGs.go _ _ hG0 hS.be) hS1 hn h5
      unfold Does at h7
      rw [hkd] at h7
      obtain ⟨v, g', h8, h9⟩ := h7
      exact ⟨v, s', g', .inl ⟨hw, h8⟩, h6, h9⟩
     ·exact ⟨undef, s1, g, .inr ⟨hw, rfl⟩, h5, hS1⟩
    obtain ⟨v, s1, g1, hy, h5, hS1⟩ := hy
    exact Cc hi (Region.noSelect_spec hsel) (fun c a w h => absurd h (hc c _ w)) ops.size w l.length listed a w (Region.free_spec hi h1) (Region.Di h3)
     (fun d hm hun => by have := List.all_eq_true.1 h4 d hm; rw [hun] at this; simpa using this) (by simpa using h2) hy (Below.refl _ _) (wH hGs hG0 hT hF hn hsel hc hQ l hos hl hS1 h5)
   ·rename_i hkd
    have hr : Region.ready .any ops listed = [i] := by simpa using hk
    refine zf hi hr ?_
    rcases hstep with ⟨hw, s1, hS1, h5⟩ | ⟨hw, s1, h5, hS1⟩
    ·obtain ⟨s', h6, h7⟩ := xZ hT hF (hGs.go _ _ hG0 hS.be) hS1 hn h5
     unfold Does at h7
     rw [hkd] at h7
     exact .inl ⟨hw, yc (Oper.wp_mono (fun a' w' ⟨h8, g', h9⟩ => ⟨fun _ => h8, wH hGs hG0 hT hF hn hsel hc hQ l hos hl h9 h6⟩) h7)⟩
    ·exact .inr ⟨hw, wH hGs hG0 hT hF hn hsel hc hQ l hos hl hS1 h5⟩
   ·rename_i hkd
    obtain ⟨hr, hm⟩ := Bool.and_eq_true_iff.1 hk
    have hr : Region.ready .any ops listed = [i] := by simpa using hr
    have hm : i ∈ ds := by simpa using hm
    refine zf hi hr ?_
    rcases hstep with ⟨hw, s1, hS1, h5⟩ | ⟨hw, s1, h5, hS1⟩
    ·obtain ⟨s', h6, h7⟩ := xZ hT hF (hGs.go _ _ hG0 hS.be) hS1 hn h5
     unfold Does at h7
     rw [hkd] at h7
     exact .inl ⟨hw, yc (Oper.wp_mono (fun a' w' ⟨g', h9⟩ => ⟨fun e => absurd hm e, wH hGs hG0 hT hF hn hsel hc hQ l hos hl h9 h6⟩) h7)⟩
    ·exact .inr ⟨hw, wH hGs hG0 hT hF hn hsel hc hQ l hos hl hS1 h5⟩
  ·cases ho
theorem DU {G : World → Prop} (hGs : rW G) (hG0 : G w0) (hm : P.follows .mixedOrders = true) (hT : kL P E.ty) (hF : su P G E.fn) (hn : E.nt = nt) {l : List Nat} {os : List Oper} {id : Nat} (ho : inOrder ops l = some os) (hl : G7 ops l = true) (hS : Sim w0 O0 nt s a w g) (h : nP E ops os s K = some r)
  (hc : ∀ c a w, ¬ Q (.panic c) a w) (hQ : ∀ s' a' w' g', K s' = some r → Sim w0 O0 nt s' a' w' g' → Q .normal a' w') : (Code.region id ops true).wp P Q a w := by
 unfold G7 at hl
 simp only [Bool.and_eq_true] at hl
 obtain ⟨⟨h1, h2⟩, h3⟩ := hl
 refine wp_region_any hm ?_
 rw [← Nat.eq_of_beq_eq_true h2]
 rw [show Array.replicate l.length false = Array.replicate ops.size false by rw [Nat.eq_of_beq_eq_true h2]]
 exact y9 _ _ _ _ (wH hGs hG0 hT hF hn h1 hc hQ l ho h3 (hS.world (w' := { w with drawn := w.drawn + 1 }) ⟨rfl, rfl, rfl, Nat.le_refl _, fun _ _ => rfl⟩) h)
end
end Go.Proofs.YtafikkmnkeddpaaGreatDoor.E
namespace Go.Proofs.YtafikkmnkeddpaaGreatDoor.E
open Go.RowKit Go.Proofs.YtafikkmnkeddpaaGreatDoorW.PrintWords Go.Proofs.YtafikkmnkeddpaaGreatDoorW.PrintLast Go.Proofs.YtafikkmnkeddpaaGreatDoorW.PrintMore
section
variable {P : Program} {E : Env} {s : St} {a : Act} {w0 w w' : World} {O0 : Nat → Prop} {nt : Nat} {g : Nat → Value}
mutual
theorem yg {B : Nat} {O D : Nat → Prop} {g : Nat → Value} : ∀ {fs : List Bool} {x : AV} {v : Value}, VR B w O D g x v → VR B w O D g (weak fs x).1 v
 | fs, .ro f k xs, v, h => by
  cases h with
  | ro _ _ _ A c hr =>
   unfold weak
   split
   ·exact .ro _ _ _ _ _ (hr.dry (fun b e => e))
   ·exact .ro _ _ _ _ _ hr
   ·exact .ro _ _ _ _ _ hr
 | fs, .agg l, v, h => by cases h with | agg _ vs hs => unfold weak; exact .agg _ _ (uZ hs)
 | fs, .tup l, v, h => by cases h with | tup _ vs hs => unfold weak; exact .tup _ _ (uZ hs)
 | fs, .v x, v, h => h
 | fs, .own n, v, h => h
 | fs, .ptr n i, v, h => h
 | fs, .ept n i, v, h => h
 | fs, .rpt x, v, h => h
 | fs, .top, v, h => h
 | fs, .new e k xs, v, h => h
theorem uZ {B : Nat} {O D : Nat → Prop} {g : Nat → Value} : ∀ {fs : List Bool} {l : List AV} {vs : List Value}, VRs B w O D g l vs → VRs B w O D g (uy fs l).1 vs
 | fs, [], vs, h => h
 | fs, x :: l, vs, h => by cases h with | cons _ v _ us hx hs => unfold uy; exact .cons _ _ _ _ (yg hx) (uZ hs)
end
theorem Nb {B : Nat} {O D : Nat → Prop} {g : Nat → Value} {k : Option IntKind} {x : AV} {v : Value} (h : VR B w O D g x v) : VR B w O D g (MQ k x) v := by
 unfold MQ
 split
 ·cases h; exact JL _ _
 ·exact h
mutual
theorem Ce (hS : Sim w0 O0 nt s a w g) {O' D' : Nat → Prop} {g' : Nat → Value} {ns : List Nat} (hO1 : ∀ b, O' b → Wet O0 s.h g b) (hO2 : ∀ n k e xs, lk n s.h = some (.ints k e xs) → BM n ns = false → ∀ b, bk (g n) = some b → ¬ O' b) :
  ∀ {x y : AV} {v : Value}, VR w0.heap.size w (Wet O0 s.h g) (Dom s.h) g x v → pJ ns x = true → low s x = some y → VR w0.heap.size w O' D' g' y v
 | .v x, y, v, hx, hf, h => by obtain rfl := Option.some.inj h; cases hx; exact .v _
 | .ro f k xs, y, v, hx, hf, h => by
  obtain rfl := Option.some.inj h
  cases hx with
  | ro _ _ _ A c hr =>
   refine .ro _ _ _ _ _ ⟨hr.le, hr.mx, fun hp => ?_⟩
   obtain ⟨b, off, e, hb, ho, hfr, hc⟩ := hr.at_ hp
   exact ⟨b, off, e, hb, fun e => ho (hO1 b e), hfr, hc⟩
 | .own n, y, v, hx, hf, h => by
  unfold low at h
  split at h
  ·rename_i k e xs hb
   obtain rfl := Option.some.inj h
   cases hx with
   | own _ hd =>
    have hrow : w.ownsRow w0.heap.size e 1 (g n) xs.length (nums k xs) := hS.hp n _ hb
    obtain ⟨A, c, hv, hr⟩ := Cb (O' := fun _ => False) hrow (fun b h => h)
    rw [hv]
    refine .ro _ _ _ _ _ ⟨hr.le, hr.mx, fun hp => ?_⟩
    obtain ⟨b, off, e, hb', ho, hfr, hc⟩ := hr.at_ hp
    exact ⟨b, off, e, hb', hO2 n _ _ _ hb (by simpa [pJ] using hf) b (by rw [hv, e]; rfl), hfr, hc⟩
  ·cases h
 | .agg l, y, v, hx, hf, h => by
  unfold low at h
  split at h
  ·rename_i m hm
   obtain rfl := Option.some.inj h
   cases hx with
   | agg _ vs hs => exact .agg _ _ (u_ hS hO1 hO2 hs (by simpa [pJ] using hf) hm)
  ·cases h
 | .tup l, y, v, hx, hf, h => by
  unfold low at h
  split at h
  ·rename_i m hm
   obtain rfl := Option.some.inj h
   cases hx with
   | tup _ vs hs => exact .tup _ _ (u_ hS hO1 hO2 hs (by simpa [pJ] using hf) hm)
  ·cases h
 | .ptr n i, y, v, hx, hf, h => by cases h
 | .ept n i, y, v, hx, hf, h => by cases h
 | .rpt x, y, v, hx, hf, h => by cases h
 | .top, y, v, hx, hf, h => by cases h
 | .new e k xs, y, v, hx, hf, h => by cases h
theorem u_ (hS : Sim w0 O0 nt s a w g) {O' D' : Nat → Prop} {g' : Nat → Value} {ns : List Nat} (hO1 : ∀ b, O' b → Wet O0 s.h g b) (hO2 : ∀ n k e xs, lk n s.h = some (.ints k e xs) → BM n ns = false → ∀ b, bk (g n) = some b → ¬ O' b) :
  ∀ {l m : List AV} {vs : List Value}, VRs w0.heap.size w (Wet O0 s.h g) (Dom s.h) g l vs → oU ns l = true → Af s l = some m → VRs w0.heap.size w O' D' g' m vs
 | [], m, vs, hx, hf, h => by obtain rfl := Option.some.inj h; cases hx; exact .nil
 | x :: l, m, vs, hx, hf, h => by
  unfold Af at h
  unfold oU at hf
  cases hx with
  | cons _ v _ us h1 h2 =>
   split at hf
   ·rename_i hfx
    split at h
    ·cases h
    ·rename_i y hy
     split at h
     ·rename_i m' hm
      obtain rfl := Option.some.inj h
      exact .cons _ _ _ _ (Ce hS hO1 hO2 h1 hfx hy) (u_ hS hO1 hO2 h2 hf hm)
     ·cases h
   ·cases hf
end
theorem Fa {α : Type} {n : Nat} {x : α} : ∀ {l : List (Nat × α)}, lk n l = some x → (n, x) ∈ l
 | [], h => by cases h
 | p :: r, h => by
  unfold lk at h
  split at h
  ·rename_i hb
   obtain rfl := Option.some.inj h
   rw [← Nat.eq_of_beq_eq_true hb]
   exact List.mem_cons_self
  ·exact List.mem_cons_of_mem _ (Fa h)
theorem wJ {α : Type} {n : Nat} {x : α} : ∀ {l : List (Nat × α)}, (n, x) ∈ l → ∃ y, lk n l = some y
 | [], h => by cases h
 | p :: r, h => by
  unfold lk
  split
  ·exact ⟨_, rfl⟩
  ·rename_i hb
   rcases List.mem_cons.1 h with e | h
   ·subst e; simp at hb
   ·exact wJ h
theorem DV {ns : List Nat} : ∀ {l : List (Nat × Option IntKind × List Bool)} {m : List (Nat × AV)}, GR s l = some m → BN s ns l = true → ∀ t x, (t, x) ∈ m → ∃ x0 y k fl, lk t s.t = some x0 ∧ low s x0 = some y ∧ x = (weak fl (MQ k y)).1 ∧ pJ ns x0 = true
 | [], m, h, hf, t, x, hm => by obtain rfl := Option.some.inj h; cases hm
 | q :: l, m, h, hf, t, x, hm => by
  unfold GR at h
  unfold BN at hf
  split at h
  ·cases h
  ·rename_i x0 hx0
   rw [hx0] at hf
   dsimp only at hf
   split at hf
   ·rename_i hfx
    split at h
    ·rename_i y m' hy hm'
     obtain rfl := Option.some.inj h
     rcases List.mem_cons.1 hm with e | hm
     ·injection e with e1 e2
      subst e1
      exact ⟨x0, y, _, _, hx0, hy, e2, hfx⟩
     ·exact DV hm' hf t x hm
    ·cases h
   ·cases hf
theorem zh : ∀ {l : List (Nat × List Bool)} {m : List (Nat × Nat × Blk)}, GU s l = some m → ∀ e ∈ m, ∃ fl c d, lk e.1 s.t = some (.ptr e.2.1 0) ∧ lk e.2.1 s.h = some (.cells c) ∧ Af s c = some d ∧ e.2.2 = .cells (uy fl d).1
 | [], m, h, e, he => by obtain rfl := Option.some.inj h; cases he
 | q :: l, m, h, e, he => by
  unfold GU at h
  split at h
  ·rename_i n hn
   split at h
   ·rename_i c hc
    split at h
    ·rename_i d m' hd hm'
     obtain rfl := Option.some.inj h
     rcases List.mem_cons.1 he with rfl | he
     ·exact ⟨_, c, d, hn, hc, hd, rfl⟩
     ·exact zh hm' e he
    ·cases h
   ·cases h
  ·cases h
theorem wK : ∀ {l : List Nat} {m : List (Nat × Nat × Blk)}, BL s l = some m → ∀ e ∈ m, ∃ c, lk e.1 s.t = some (.ptr e.2.1 0) ∧ lk e.2.1 s.h = some (.cells c) ∧ e.2.2 = .cells (c.map fun _ => .top)
 | [], m, h, e, he => by obtain rfl := Option.some.inj h; cases he
 | q :: l, m, h, e, he => by
  unfold BL at h
  split at h
  ·rename_i n hn
   split at h
   ·rename_i c m' hc hm'
    obtain rfl := Option.some.inj h
    rcases List.mem_cons.1 he with rfl | he
    ·exact ⟨c, hn, hc, rfl⟩
    ·exact wK hm' e he
   ·cases h
  ·cases h
theorem zi : ∀ {l : List (Nat × IntKind × TypeId)} {m : List (Nat × Option Nat × Blk)}, rowAt s l = some m → ∀ e ∈ m, (∃ n k t xs, e.2.1 = some n ∧ lk e.1 s.t = some (.own n) ∧ lk n s.h = some (.ints k t xs) ∧ e.2.2 = .ints k t xs) ∨ (e.2.1 = none ∧ lk e.1 s.t = some (.v (.slice none 0 0)) ∧ ∃ k t, e.2.2 = .ints k t [])
 | [], m, h, e, he => by obtain rfl := Option.some.inj h; cases he
 | q :: l, m, h, e, he => by
  unfold rowAt at h
  split at h
  ·rename_i n hn
   split at h
   ·rename_i k t xs m' hc hm'
    split at h
    ·obtain rfl := Option.some.inj h
     rcases List.mem_cons.1 he with rfl | he
     ·exact .inl ⟨n, k, t, xs, rfl, hn, hc, rfl⟩
     ·exact zi hm' e he
    ·cases h
   ·cases h
  ·rename_i hn
   split at h
   ·rename_i m' hm'
    obtain rfl := Option.some.inj h
    rcases List.mem_cons.1 he with rfl | he
    ·exact .inr ⟨rfl, hn, _, _, rfl⟩
    ·exact zi hm' e he
   ·cases h
  ·cases h
theorem zk {ns : List Nat} : ∀ {l : List (Nat × Nat × Blk)}, xW s ns l = true → ∀ e ∈ l, ∀ c, lk e.2.1 s.h = some (.cells c) → oU ns c = true
 | [], h, e, he, c, hc => by cases he
 | q :: l, h, e, he, c, hc => by
  unfold xW at h
  split at h
  ·rename_i c' hc'
   split at h
   ·rename_i hf
    rcases List.mem_cons.1 he with rfl | he
    ·rw [hc'] at hc; injection hc with hc; injection hc with hc; subst hc; exact hf
    ·exact zk h e he c hc
   ·cases h
  ·cases h
theorem zl {n : Nat} : ∀ {l : List Nat}, BM n l = false → n ∉ l
 | [], h => by simp
 | m :: l, h => by
  unfold BM at h
  split at h
  ·cases h
  ·rename_i hb
   intro hm
   rcases List.mem_cons.1 hm with rfl | hm
   ·simp at hb
   ·exact zl h hm
theorem xA : ∀ {l : List (Nat × Nat)} {p q n : Nat}, yR (l.map (·.2)) = true → (p, n) ∈ l → (q, n) ∈ l → p = q
 | [], p, q, n, h, hp, hq => by cases hp
 | x :: l, p, q, n, h, hp, hq => by
  simp only [List.map_cons, yR] at h
  split at h
  ·cases h
  ·rename_i hm
   have hnot := zl hm
   rcases List.mem_cons.1 hp with e | hp <;> rcases List.mem_cons.1 hq with e' | hq
   ·rw [← e'] at e; injection e
   ·exact absurd (List.mem_map.2 ⟨_, hq, by rw [← e]⟩) hnot
   ·exact absurd (List.mem_map.2 ⟨_, hp, by rw [← e']⟩) hnot
   ·exact xA h hp hq
end
end Go.Proofs.YtafikkmnkeddpaaGreatDoor.E
namespace Go.Proofs.YtafikkmnkeddpaaGreatDoor.E
open Go.RowKit Go.Proofs.YtafikkmnkeddpaaGreatDoorW.PrintWords Go.Proofs.YtafikkmnkeddpaaGreatDoorW.PrintLast Go.Proofs.YtafikkmnkeddpaaGreatDoorW.PrintMore
section
variable {P : Program} {E : Env} {s : St} {a : Act} {w0 w w' : World} {O0 : Nat → Prop} {nt : Nat} {g : Nat → Value}
def rowP : List (Nat × Option Nat × Blk) → List (Nat × Nat)
 | [] => []
 | e :: r => match e.2.1 with
  | some n => (e.1, n) :: rowP r
  | none => rowP r
theorem vg : ∀ {c : List (Nat × Option Nat × Blk)}, (rowP c).map (·.2) = uz (c.map (·.2.1))
 | [] => rfl
 | e :: r => by
  obtain ⟨q, n, b⟩ := e
  cases n with
  | none => simp [rowP, uz, vg (c := r)]
  | some n => simp [rowP, uz, vg (c := r)]
theorem zn {q n : Nat} : ∀ {c : List (Nat × Option Nat × Blk)} {e : Nat × Option Nat × Blk}, e ∈ c → e.2.1 = some n → (e.1, n) ∈ rowP c
 | [], e, he, hn => by cases he
 | f :: r, e, he, hn => by
  unfold rowP
  rcases List.mem_cons.1 he with rfl | he
  ·rw [hn]; exact List.mem_cons_self
  ·split
   ·exact List.mem_cons_of_mem _ (zn (q := q) he hn)
   ·exact zn (q := q) he hn
theorem G8 {B : Nat} {O D : Nat → Prop} {g : Nat → Value} : ∀ {c : List AV} {vs : List Value}, c.length = vs.length → VRs B w O D g (c.map fun _ => AV.top) vs
 | [], [], h => .nil
 | x :: c, v :: vs, h => .cons _ _ _ _ (.top v) (G8 (by simpa using h))
 | [], v :: vs, h => by simp at h
 | x :: c, [], h => by simp at h
theorem J6 {p : Pt} {s' : St} (hS : Sim w0 O0 nt s a w g) (h : canon p s = some s') : ∃ g', Sim w0 O0 nt s' a w g' := by
 unfold canon at h
 split at h
 ·rename_i la lb lc ld ha hb hc hd
  split at h
  ·rename_i h1 h2 h3 h4
   obtain rfl := Option.some.inj h
   refine ⟨fun q => a.tmps.getD q undef, ?_⟩
   generalize hg' : (fun q => a.tmps.getD q undef) = g'
   have hgq : ∀ q, g' q = a.tmps.getD q undef := fun q => by rw [← hg']
   have hbox : ∀ e ∈ lb ++ ld, ∃ c0, lk e.2.1 s.h = some (.cells c0) ∧ g' e.1 = g e.2.1 ∧ ∃ k, g' e.1 = .pointer (some ⟨k, 0, none⟩) := fun e he => by
    have : ∃ c0, lk e.1 s.t = some (.ptr e.2.1 0) ∧ lk e.2.1 s.h = some (.cells c0) := by
     rcases List.mem_append.1 he with he | he
     ·obtain ⟨_, c0, _, k1, k2, _⟩ := zh hb e he; exact ⟨c0, k1, k2⟩
     ·obtain ⟨c0, k1, k2, _⟩ := wK hd e he; exact ⟨c0, k1, k2⟩
    obtain ⟨c0, k1, k2⟩ := this
    have k3 := hS.tm _ _ k1
    rw [← hgq] at k3
    generalize hv : g' e.1 = v at k3
    cases k3 with
    | ptr _ _ b hdm hgn => exact ⟨c0, k2, hgn.symm, b, rfl⟩
   have hrow : ∀ e ∈ lc, (∃ n k t xs, e.2.1 = some n ∧ lk n s.h = some (.ints k t xs) ∧ e.2.2 = .ints k t xs ∧ g' e.1 = g n) ∨ (e.2.1 = none ∧ (∃ k t, e.2.2 = .ints k t []) ∧ g' e.1 = .slice none 0 0) := fun e he => by
    rcases zi hc e he with ⟨n, k, t, xs, k1, k2, k3, k4⟩ | ⟨k1, k2, k3⟩
    ·have k5 := hS.tm _ _ k2
     rw [← hgq] at k5
     generalize hv : g' e.1 = v at k5
     cases k5 with
     | own _ hdm => exact .inl ⟨n, k, t, xs, k1, k3, k4, rfl⟩
    ·have k5 := iY (hS.tm _ _ k2)
     exact .inr ⟨k1, k3, by rw [hgq]; exact k5⟩
   have hmem : ∀ q b', lk q ((lb ++ ld).map (fun x => (x.1, x.2.2)) ++ lc.map (fun x => (x.1, x.2.2))) = some b' → (∃ e ∈ lb ++ ld, e.1 = q ∧ e.2.2 = b') ∨ (∃ e ∈ lc, e.1 = q ∧ e.2.2 = b') := fun q b' hq => by
    rcases List.mem_append.1 (Fa hq) with hm | hm
    ·obtain ⟨e, he, e1⟩ := List.mem_map.1 hm
     injection e1 with e1 e2
     exact .inl ⟨e, he, e1, e2⟩
    ·obtain ⟨e, he, e1⟩ := List.mem_map.1 hm
     injection e1 with e1 e2
     exact .inr ⟨e, he, e1, e2⟩
   have hdom : ∀ q, ((∃ e ∈ lb ++ ld, e.1 = q) ∨ (∃ e ∈ lc, e.1 = q)) → Dom ((lb ++ ld).map (fun x => (x.1, x.2.2)) ++ lc.map (fun x => (x.1, x.2.2))) q := fun q hq => by
    rcases hq with ⟨e, he, rfl⟩ | ⟨e, he, rfl⟩
    ·exact wJ (List.mem_append.2 (.inl (List.mem_map.2 ⟨e, he, rfl⟩)))
    ·exact wJ (List.mem_append.2 (.inr (List.mem_map.2 ⟨e, he, rfl⟩)))
   have key : ∀ q k, Dom ((lb ++ ld).map (fun x => (x.1, x.2.2)) ++ lc.map (fun x => (x.1, x.2.2))) q → bk (g' q) = some k → ∃ n, (q, n) ∈ (lb ++ ld).map (fun e => (e.1, e.2.1)) ++ rowP lc ∧ g' q = g n ∧ Dom s.h n := fun q k hq hk => by
    obtain ⟨b', hb'⟩ := hq
    rcases hmem q b' hb' with ⟨e, he, rfl, _⟩ | ⟨e, he, rfl, _⟩
    ·obtain ⟨c0, k1, k2, _⟩ := hbox e he
     exact ⟨e.2.1, List.mem_append.2 (.inl (List.mem_map.2 ⟨e, he, rfl⟩)), k2, ⟨_, k1⟩⟩
    ·rcases hrow e he with ⟨n, _, _, _, k1, k2, _, k4⟩ | ⟨_, _, k3⟩
     ·exact ⟨n, List.mem_append.2 (.inr (zn (q := 0) he k1)), k4, ⟨_, k2⟩⟩
     ·rw [k3] at hk; cases hk
   have hO1 : ∀ b, Wet O0 ((lb ++ ld).map (fun x => (x.1, x.2.2)) ++ lc.map (fun x => (x.1, x.2.2))) g' b → Wet O0 s.h g b := fun b hw => by
    rcases hw with hw | ⟨q, hq, hk⟩
    ·exact .inl hw
    ·obtain ⟨n, _, k2, k3⟩ := key q b hq hk
     exact .inr ⟨n, k3, by rw [← k2]; exact hk⟩
   have hO2 : ∀ n k e xs, lk n s.h = some (.ints k e xs) → BM n (uz (lc.map (·.2.1))) = false → ∀ b, bk (g n) = some b → ¬ Wet O0 ((lb ++ ld).map (fun x => (x.1, x.2.2)) ++ lc.map (fun x => (x.1, x.2.2))) g' b := fun n k e xs hl hn b hk hw => by
    rcases hw with hw | ⟨q, hq, hk'⟩
    ·have := hS.o0 b hw
     have := ((hS.hp n _ hl).rU hk).1
     omega
    ·obtain ⟨n', k1, k2, k3⟩ := key q b hq hk'
     obtain rfl : n' = n := hS.ne n' n k3 ⟨_, hl⟩ b (by rw [← k2]; exact hk') hk
     rcases List.mem_append.1 k1 with k1 | k1
     ·obtain ⟨e', he', e1⟩ := List.mem_map.1 k1
      injection e1 with e1 e2
      obtain ⟨c0, k4, _⟩ := hbox e' he'
      rw [e2, hl] at k4
      cases k4
     ·have : n' ∈ uz (lc.map (·.2.1)) := by rw [← vg]; exact List.mem_map.2 ⟨_, k1, rfl⟩
      exact zl hn this
   refine ⟨hS.o0, hS.sz, hS.df, hS.be, fun t x hx => ?_, fun q b' hq => ?_, fun p q hp hq k hpk hqk => ?_⟩
   ·rw [← hgq]
    rcases List.mem_append.1 (Fa hx) with hm | hm
    ·rcases List.mem_append.1 hm with hm | hm
     ·obtain ⟨x0, y, k, fl, k1, k2, rfl, k4⟩ := DV ha h3 t x hm
      have := hS.tm _ _ k1
      rw [← hgq] at this
      exact yg (Nb (Ce hS hO1 hO2 this k4 k2))
     ·obtain ⟨e, he, e1⟩ := List.mem_map.1 hm
      injection e1 with e1 e2
      subst e1
      subst e2
      obtain ⟨_, _, _, k, hk⟩ := hbox e he
      rw [hk]
      exact .ptr _ _ k (hdom _ (.inl ⟨e, he, rfl⟩)) hk
    ·obtain ⟨e, he, e1⟩ := List.mem_map.1 hm
     injection e1 with e1 e2
     subst e1
     subst e2
     exact .own _ (hdom _ (.inr ⟨e, he, rfl⟩))
   ·rcases hmem q b' hq with ⟨e, he, rfl, rfl⟩ | ⟨e, he, rfl, rfl⟩
    ·obtain ⟨c0, k1, k2, _⟩ := hbox e he
     obtain ⟨b, vs, ty, k5, k6, k7, k8⟩ := hS.hp _ _ k1
     rcases List.mem_append.1 he with he | he
     ·obtain ⟨fl, c, d, _, m2, m3, m4⟩ := zh hb e he
      rw [k1] at m2
      injection m2 with m2
      injection m2 with m2
      subst m2
      rw [m4, k2]
      exact ⟨b, vs, ty, k5, k6, k7, uZ (u_ hS hO1 hO2 k8 (zk h4 e he _ k1) m3)⟩
     ·obtain ⟨c, _, m2, m4⟩ := wK hd e he
      rw [k1] at m2
      injection m2 with m2
      injection m2 with m2
      subst m2
      rw [m4, k2]
      exact ⟨b, vs, ty, k5, k6, k7, G8 k8.length⟩
    ·rcases hrow e he with ⟨n, k, t, xs, k1, k2, k3, k4⟩ | ⟨k1, ⟨k, t, k3⟩, k4⟩
     ·rw [k3, k4]
      have : w.ownsRow w0.heap.size t 1 (g n) xs.length (nums k xs) := hS.hp n _ k2
      exact this
     ·rw [k3, k4]
      exact World.ownsRow_nil w _ t 1
   ·obtain ⟨n, k1, k2, k3⟩ := key p k hp hpk
    obtain ⟨m, k4, k5, k6⟩ := key q k hq hqk
    obtain rfl : n = m := hS.ne n m k3 k6 k (by rw [← k2]; exact hpk) (by rw [← k5]; exact hqk)
    refine xA (l := (lb ++ ld).map (fun e => (e.1, e.2.1)) ++ rowP lc) ?_ k1 k4
    rw [List.map_append, vg, List.map_map]
    exact h1
  ·cases h
 ·cases h
end
end Go.Proofs.YtafikkmnkeddpaaGreatDoor.E
namespace Go.Proofs.YtafikkmnkeddpaaGreatDoor.E
open Go.RowKit Go.Proofs.YtafikkmnkeddpaaGreatDoorW.PrintWords Go.Proofs.YtafikkmnkeddpaaGreatDoorW.PrintLast Go.Proofs.YtafikkmnkeddpaaGreatDoorW.PrintMore
def item : PI → Item
 | .c _ x => .code x
 | .b id => .inBlock id
 | .l _ x => .inLoop x
 | .s _ x => .inScope x
def items (l : List PI) : List Item := l.map item
def good1 (body : Code) : PI → Prop
 | .c p x => sub body p = some x
 | .b _ => True
 | .l p x => sub body p = some x
 | .s p x => sub body p = some x
def Good (body : Code) (l : List PI) : Prop := ∀ x ∈ l, good1 body x
theorem lH : ∀ {c d : Code} {p q : List Nat}, sub c p = some d → sub c (p ++ q) = sub d q
 | c, d, [], q, h => by
  have : c = d := by cases c <;> first | (simp [sub] at h; done) | simpa [sub] using h
  rw [this]; rfl
 | .seq x y, d, 0 :: p, q, h => lH (c := x) h
 | .seq x y, d, 1 :: p, q, h => lH (c := y) h
 | .seq x y, d, (n + 2) :: p, q, h => by cases h
 | .cond z x y, d, 0 :: p, q, h => lH (c := x) h
 | .cond z x y, d, 1 :: p, q, h => lH (c := y) h
 | .cond z x y, d, (n + 2) :: p, q, h => by cases h
 | .block id x, d, 0 :: p, q, h => lH (c := x) h
 | .block id x, d, (n + 1) :: p, q, h => by simp [sub] at h
 | .loop x, d, 0 :: p, q, h => lH (c := x) h
 | .loop x, d, (n + 1) :: p, q, h => by simp [sub] at h
 | .scope x, d, 0 :: p, q, h => lH (c := x) h
 | .scope x, d, (n + 1) :: p, q, h => by simp [sub] at h
 | .skip, d, n :: p, q, h => by simp [sub] at h
 | .region _ _ _, d, n :: p, q, h => by simp [sub] at h
 | .rangeFunc _ _ _ _, d, n :: p, q, h => by simp [sub] at h
 | .exit _, d, n :: p, q, h => by simp [sub] at h
 | .label _, d, n :: p, q, h => by simp [sub] at h
 | .goto _, d, n :: p, q, h => by simp [sub] at h
 | .ret, d, n :: p, q, h => by simp [sub] at h
 | .refuse _, d, n :: p, q, h => by simp [sub] at h
theorem Ci : ∀ {a b : List Nat}, eqN a b = true → a = b
 | [], [], _ => rfl
 | x :: a, y :: b, h => by
  unfold eqN at h
  split at h
  ·rename_i hb
   rw [Nat.eq_of_beq_eq_true hb, Ci h]
  ·cases h
 | [], y :: b, h => by cases h
 | x :: a, [], h => by cases h
theorem sG {body : Code} : ∀ {l : List PI} {m : List PP}, eqP l m = true → Good body l → fill body m = some l
 | [], [], _, _ => rfl
 | .c p x :: k, .c q :: m, h, hg => by
  unfold eqP at h
  split at h
  ·rename_i hb
   have h1 := sG h (fun y hy => hg y (List.mem_cons_of_mem _ hy))
   have h2 : sub body p = some x := hg _ List.mem_cons_self
   rw [Ci hb] at h2 ⊢
   simp only [fill, h1, h2]
  ·cases h
 | .l p x :: k, .l q :: m, h, hg => by
  unfold eqP at h
  split at h
  ·rename_i hb
   have h1 := sG h (fun y hy => hg y (List.mem_cons_of_mem _ hy))
   have h2 : sub body p = some x := hg _ List.mem_cons_self
   rw [Ci hb] at h2 ⊢
   simp only [fill, h1, h2]
  ·cases h
 | .s p x :: k, .s q :: m, h, hg => by
  unfold eqP at h
  split at h
  ·rename_i hb
   have h1 := sG h (fun y hy => hg y (List.mem_cons_of_mem _ hy))
   have h2 : sub body p = some x := hg _ List.mem_cons_self
   rw [Ci hb] at h2 ⊢
   simp only [fill, h1, h2]
  ·cases h
 | .b i :: k, .b j :: m, h, hg => by
  unfold eqP at h
  split at h
  ·rename_i hb
   have h1 := sG h (fun y hy => hg y (List.mem_cons_of_mem _ hy))
   rw [Nat.eq_of_beq_eq_true hb]
   simp only [fill, h1]
  ·cases h
theorem Bd {body : Code} : ∀ {m : List PP} {l : List PI}, fill body m = some l → Good body l
 | [], l, h => by obtain rfl := Option.some.inj h; intro x hx; cases hx
 | x :: m, l, h => by
  unfold fill at h
  split at h
  ·cases h
  ·rename_i k hk
   have hg := Bd hk
   cases x with
   | b i =>
    obtain rfl := Option.some.inj h
    intro y hy
    rcases List.mem_cons.1 hy with rfl | hy
    ·trivial
    ·exact hg y hy
   | c p =>
    dsimp only at h
    split at h
    ·rename_i c hc
     obtain rfl := Option.some.inj h
     intro y hy
     rcases List.mem_cons.1 hy with rfl | hy
     ·exact hc
     ·exact hg y hy
    ·cases h
   | l p =>
    dsimp only at h
    split at h
    ·rename_i c hc
     obtain rfl := Option.some.inj h
     intro y hy
     rcases List.mem_cons.1 hy with rfl | hy
     ·exact hc
     ·exact hg y hy
    ·cases h
   | s p =>
    dsimp only at h
    split at h
    ·rename_i c hc
     obtain rfl := Option.some.inj h
     intro y hy
     rcases List.mem_cons.1 hy with rfl | hy
     ·exact hc
     ·exact hg y hy
    ·cases h
theorem pK {id : Nat} : ∀ {k m : List PI}, DF id k = some m → exitTo id (items k) = some (items m) ∧ ∀ x ∈ m, x ∈ k
 | [], m, h => by cases h
 | x :: k, m, h => by
  cases x with
  | b i =>
   unfold DF at h
   split at h
   ·rename_i hb
    obtain rfl := Option.some.inj h
    refine ⟨?_, fun x hx => List.mem_cons_of_mem _ hx⟩
    have : (i == id) = true := by rw [Nat.eq_of_beq_eq_true hb]; simp
    simp [items, item, exitTo, this]
   ·rename_i hb
    obtain ⟨h1, h2⟩ := pK h
    have : (i == id) = false := by rw [beq_eq_false_iff_ne]; intro e; subst e; simp at hb
    exact ⟨by simpa [items, item, exitTo, this] using h1, fun x hx => List.mem_cons_of_mem _ (h2 x hx)⟩
  | c p x => obtain ⟨h1, h2⟩ := pK (k := k) h; exact ⟨h1, fun x hx => List.mem_cons_of_mem _ (h2 x hx)⟩
  | l p x => obtain ⟨h1, h2⟩ := pK (k := k) h; exact ⟨h1, fun x hx => List.mem_cons_of_mem _ (h2 x hx)⟩
  | s p x => obtain ⟨h1, h2⟩ := pK (k := k) h; exact ⟨h1, fun x hx => List.mem_cons_of_mem _ (h2 x hx)⟩
def Reach (P : Program) (todo : List PI) (R : Act → World → Prop) (a : Act) (w : World) : Prop :=
 ∀ (b : Frame) (cs : List Frame), ∃ a' w', R a' w' ∧ ∃ t, Steps P (lone (b.at a (items todo)) cs w) (lone { b.at a' t with mode := .returning } cs w')
theorem Reach.step {P : Program} {t t' : List PI} {R : Act → World → Prop} {a a' : Act} {w w' : World} (h : Reach P t' R a' w') (hs : ∀ (b : Frame) (cs : List Frame), Steps P (lone (b.at a (items t)) cs w) (lone (b.at a' (items t')) cs w')) : Reach P t R a w := fun b cs => by
 obtain ⟨a2, w2, h1, t2, h2⟩ := h b cs
 exact ⟨a2, w2, h1, t2, (hs b cs).trans h2⟩
def draws : Code → List (Nat × Array Oper)
 | .region id ops true => [(id, ops)]
 | .seq a b => draws a ++ draws b
 | .cond _ a b => draws a ++ draws b
 | .block _ c => draws c
 | .loop c => draws c
 | .scope c => draws c
 | _ => []
theorem nI : ∀ {c : Code} {p : List Nat} {id : Nat} {ops : Array Oper}, sub c p = some (.region id ops true) → (id, ops) ∈ draws c
 | c, [], id, ops, h => by
  have : c = .region id ops true := by cases c <;> first | (simp [sub] at h; done) | simpa [sub] using h
  rw [this]; simp [draws]
 | .seq x y, 0 :: p, id, ops, h => List.mem_append.2 (.inl (nI (c := x) h))
 | .seq x y, 1 :: p, id, ops, h => List.mem_append.2 (.inr (nI (c := y) h))
 | .seq x y, (n + 2) :: p, id, ops, h => by cases h
 | .cond z x y, 0 :: p, id, ops, h => List.mem_append.2 (.inl (nI (c := x) h))
 | .cond z x y, 1 :: p, id, ops, h => List.mem_append.2 (.inr (nI (c := y) h))
 | .cond z x y, (n + 2) :: p, id, ops, h => by cases h
 | .block _ x, 0 :: p, id, ops, h => nI (c := x) h
 | .block _ x, (n + 1) :: p, id, ops, h => by simp [sub] at h
 | .loop x, 0 :: p, id, ops, h => nI (c := x) h
 | .loop x, (n + 1) :: p, id, ops, h => by simp [sub] at h
 | .scope x, 0 :: p, id, ops, h => nI (c := x) h
 | .scope x, (n + 1) :: p, id, ops, h => by simp [sub] at h
 | .skip, n :: p, id, ops, h => by simp [sub] at h
 | .region _ _ _, n :: p, id, ops, h => by simp [sub] at h
 | .rangeFunc _ _ _ _, n :: p, id, ops, h => by simp [sub] at h
 | .exit _, n :: p, id, ops, h => by simp [sub] at h
 | .label _, n :: p, id, ops, h => by simp [sub] at h
 | .goto _, n :: p, id, ops, h => by simp [sub] at h
 | .ret, n :: p, id, ops, h => by simp [sub] at h
 | .refuse _, n :: p, id, ops, h => by simp [sub] at h
def Cj (od : List (Nat × List Nat)) (c : Code) : Bool := (draws c).all fun x => match lk x.1 od with
 | some l => G7 x.2 l
 | none => true
section
variable {P : Program} {E : Env} {s : St} {a : Act} {w0 w w' : World} {O0 : Nat → Prop} {nt : Nat} {g : Nat → Value}
def mD (P : Program) (body : Code) (E : Env) (G : World → Prop) (R : World → (Nat → Prop) → AV → Act → World → Prop) : Prop :=
 ∀ key p todo, lk key E.pt = some p → fill body p.pp = some todo → ∀ w0 O0 s a w g r, G w0 → Sim w0 O0 E.nt s a w g → p.ap s = some r → Reach P todo (R w0 O0 r) a w
theorem G9 {body : Code} {G : World → Prop} {R : World → (Nat → Prop) → AV → Act → World → Prop} (hP : mD P body E G R) (hG0 : G w0) {key : Nat} {first : Bool} {todo : List PI} (hg : Good body todo) (hS : Sim w0 O0 E.nt s a w g) {go : Option AV} {r : AV} (h : MR E key first todo s go = some r) (hgo : go = some r → Reach P todo (R w0 O0 r) a w) : Reach P todo (R w0 O0 r) a w := by
 unfold MR at h
 split at h
 ·rename_i p hp
  split at h
  ·rename_i he
   split at h
   ·rename_i s' hs'
    obtain ⟨g', hS'⟩ := J6 hS hs'
    exact hP key p todo hp (sG he hg) w0 O0 s' a w g' r hG0 hS' h
   ·cases h
  ·exact hgo h
 ·exact hgo h
theorem Fb {body : Code} {G : World → Prop} {R : World → (Nat → Prop) → AV → Act → World → Prop} (hGs : rW G) (hm : P.follows .mixedOrders = true) (hT : kL P E.ty) (hF : su P G E.fn) (hD : Cj E.od body = true) (hP : mD P body E G R) {rs : List ResultVar}
  (hR : ∀ w0 O0 s a w g r, Sim w0 O0 E.nt s a w g → DI E s rs = some r → R w0 O0 r a w) :
  ∀ (n : Nat) (first : Bool) (todo : List PI) (w0 : World) (O0 : Nat → Prop) (s : St) (a : Act) (w : World) (g : Nat → Value) (r : AV), G w0 → Good body todo → Sim w0 O0 E.nt s a w g → run E rs n first todo s = some r → Reach P todo (R w0 O0 r) a w
 | 0, first, todo, w0, O0, s, a, w, g, r, hG0, hg, hS, h => by cases h
 | n + 1, first, todo, w0, O0, s, a, w, g, r, hG0, hg, hS, h => by
  have ih := fun first todo s a w g hg hS h => Fb hGs hm hT hF hD hP hR n first todo w0 O0 s a w g r hG0 hg hS h
  unfold run at h
  split at h
  ·exact fun b cs => ⟨a, w, hR _ _ _ _ _ _ _ hS h, _, .one step_end⟩
  ·exact (ih _ _ _ _ _ _ (fun x hx => hg x (List.mem_cons_of_mem _ hx)) hS h).step fun b cs => .one step_inBlock
  ·exact (ih _ _ _ _ _ _ (fun x hx => hg x (List.mem_cons_of_mem _ hx)) hS h).step fun b cs => .one step_inScope
  ·rename_i p c k
   refine (ih _ _ _ _ _ _ (fun x hx => ?_) hS h).step fun b cs => .one step_inLoop
   rcases List.mem_cons.1 hx with rfl | hx
   ·exact hg (.l p c) List.mem_cons_self
   ·exact hg x hx
  ·rename_i p x k
   have hx : sub body p = some x := hg _ List.mem_cons_self
   have hk : Good body k := fun y hy => hg y (List.mem_cons_of_mem _ hy)
   split at h
   ·exact fun b cs => ⟨a, w, hR _ _ _ _ _ _ _ hS h, _, .one step_ret⟩
   ·exact (ih _ _ _ _ _ _ hk hS h).step fun b cs => .one step_skip
   ·exact (ih _ _ _ _ _ _ hk hS h).step fun b cs => .one step_label
   ·rename_i c
    refine (ih _ _ _ _ _ _ (fun y hy => ?_) hS h).step fun b cs => .one step_scope
    rcases List.mem_cons.1 hy with rfl | hy
    ·exact (lH hx).trans (by cases c <;> rfl)
    ·rcases List.mem_cons.1 hy with rfl | hy
     ·exact (lH hx).trans (by cases c <;> rfl)
     ·exact hk y hy
   ·rename_i c d
    refine (ih _ _ _ _ _ _ (fun y hy => ?_) hS h).step fun b cs => .one step_seq
    rcases List.mem_cons.1 hy with rfl | hy
    ·exact (lH hx).trans (by cases c <;> rfl)
    ·rcases List.mem_cons.1 hy with rfl | hy
     ·exact (lH hx).trans (by cases d <;> rfl)
     ·exact hk y hy
   ·rename_i id c
    refine (ih _ _ _ _ _ _ (fun y hy => ?_) hS h).step fun b cs => .one step_block
    rcases List.mem_cons.1 hy with rfl | hy
    ·exact (lH hx).trans (by cases c <;> rfl)
    ·rcases List.mem_cons.1 hy with rfl | hy
     ·trivial
     ·exact hk y hy
   ·rename_i c
    refine (ih _ _ _ _ _ _ (fun y hy => ?_) hS h).step fun b cs => .one step_loop
    rcases List.mem_cons.1 hy with rfl | hy
    ·exact (lH hx).trans (by cases c <;> rfl)
    ·rcases List.mem_cons.1 hy with rfl | hy
     ·exact (lH hx).trans (by cases c <;> rfl)
     ·exact hk y hy
   ·rename_i id
    split at h
    ·rename_i k' hk'
     obtain ⟨h1, h2⟩ := pK hk'
     exact (ih _ _ _ _ _ _ (fun y hy => hk y (h2 y hy)) hS h).step fun b cs => .one (step_exit h1)
    ·cases h
   ·rename_i c x y
    refine G9 hP hG0 hg hS h fun h => ?_
    split at h
    ·rename_i b hb
     have hv := iY (hS.tm c _ hb)
     have hev : a.eval (.tmp c) = .bool b := hv
     split at h
     ·rename_i ht
      refine (ih _ _ _ _ _ _ (fun z hz => ?_) hS h).step fun fb cs => .one (by have := step_cond (P := P) (b := fb) (cs := cs) (w := w) (k := items k) (x := x) (y := y) hev; rw [ht] at this; exact this)
      rcases List.mem_cons.1 hz with rfl | hz
      ·exact (lH hx).trans (by cases x <;> rfl)
      ·exact hk z hz
     ·rename_i hf
      refine (ih _ _ _ _ _ _ (fun z hz => ?_) hS h).step fun fb cs => .one (by have := step_cond (P := P) (b := fb) (cs := cs) (w := w) (k := items k) (x := x) (y := y) hev; rw [if_neg hf] at this; exact this)
      rcases List.mem_cons.1 hz with rfl | hz
      ·exact (lH hx).trans (by cases y <;> rfl)
      ·exact hk z hz
    ·cases h
   ·rename_i id ops d
    refine G9 hP hG0 hg hS h fun h => ?_
    have fin : (Code.region id ops d).wp P (fun e a' w' => e = .normal ∧ Reach P k (R w0 O0 r) a' w') a w → Reach P (.c p (.region id ops d) :: k) (R w0 O0 r) a w := fun hwp fb cs => by
     obtain ⟨e, a', w', ⟨rfl, hr⟩, harr⟩ := hwp fb (items k) cs
     obtain ⟨a2, w2, h1, t2, h2⟩ := hr fb cs
     exact ⟨a2, w2, h1, t2, Steps.trans harr h2⟩
    refine fin ?_
    split at h
    ·exact wp_region_list (wG hGs hG0 hT hF rfl (fun s' a' w' g' h1 h2 => ⟨rfl, ih _ _ _ _ _ _ hk h2 h1⟩) _ hS h)
    ·split at h
     ·rename_i l hl
      split at h
      ·rename_i os hos
       have hord : G7 ops l = true := by
        have := List.all_eq_true.1 hD _ (nI hx)
        dsimp only at this
        rwa [hl] at this
       exact DU hGs hG0 hm hT hF rfl hos hord hS h (fun c a w h => by cases h.1) (fun s' a' w' g' h1 h2 => ⟨rfl, ih _ _ _ _ _ _ hk h2 h1⟩)
      ·cases h
     ·cases h
   ·cases h
end
end Go.Proofs.YtafikkmnkeddpaaGreatDoor.E
