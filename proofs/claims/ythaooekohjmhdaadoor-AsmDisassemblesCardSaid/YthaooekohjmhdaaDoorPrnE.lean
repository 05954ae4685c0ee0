/- The walk of the document's SetName of layer 25. No condition. -/
import Derived.Test.YthaooekohjmhdaaDoorPrnD
set_option linter.unusedVariables false
set_option linter.unusedSimpArgs false
namespace Go.Proofs.YthaooekohjmhdaaDoor
open Go.RowKit

theorem setPre_app (S k : Nat) (h : S / 2 ^ k % 2 = 1) : B (setPre S (k + 1)) = B (setPre S k) ++ ⟨#[([105, 122, 111, 117, 120] : List UInt8).getD k 0]⟩ := by
  apply B_ext
  rw [append_list, B_data, B_data, setPre, if_pos h]
theorem setPre_non (S k : Nat) (h : ¬ S / 2 ^ k % 2 = 1) : setPre S (k + 1) = setPre S k := by
  rw [setPre, if_neg h, List.append_nil]
theorem B_size (l : List UInt8) : (B l).size = l.length := by simp [B, ByteArray.size]

set_option maxRecDepth 100000 in
set_option maxHeartbeats 2000000 in
theorem ref_SetName (s : Int) (h0 : 0 ≤ s) (h1 : s < 32) (w : World) :
    Calls Tryd.prog 42 #[.int .i64 s] w fun e w' => e = .returned (.string (setN s)) ∧ Below w.heap.size w w' := by
  by_cases hz : s = 0
  · subst hz
    go_enter Tryd.func42, Tryd.ntmps42
    go_wp2
    go_ret
    exact ⟨rfl, Below.refl _ _⟩
  · have hz' : (s == 0) = false := by simpa using hz
    have hfin : setN s = B (setPre s.toNat 5) := by unfold setN; rw [if_neg hz]
    rw [hfin]
    clear hfin
    obtain ⟨S, rfl⟩ : ∃ S : Nat, s = (S : Int) := ⟨s.toNat, by omega⟩
    have hS : S < 32 := by omega
    rw [Int.toNat_natCast]
    go_enter Tryd.func42, Tryd.ntmps42
    go_wp2
    go_loop [3, 5] (fun o t => ∃ (k : Nat) (y : ByteArray), t = .int .i64 (k : Int) ∧ o = .string y ∧ k ≤ 5 ∧ Hid (y = B (setPre S k))) (fun _ t => 5 - (intOf t).toNat)
    case atStart => exact ⟨0, _, rfl, rfl, by omega, Lib.hid rfl⟩
    case round =>
      obtain ⟨k, y, rfl, rfl, hk, hy⟩ := hrel
      by_cases hlt : k < 5
      · have hcs : k = 0 ∨ k = 1 ∨ k = 2 ∨ k = 3 ∨ k = 4 := by omega
        rcases hcs with rfl | rfl | rfl | rfl | rfl
        · have hw1 : ((0 : Nat) : Int) = 0 := rfl
          have hlen : y.size ≤ 5 := by rw [hy.out, B_size]; exact Nat.le_trans (setPre_len S 0) (by decide)
          have hsum : ¬ 9223372036854775807 < y.size + 1 := by omega
          clear hlen
          by_cases hbit : S / 1 % 2 = 1
          · have hbs : S % 2 = 1 := by omega
            have hb1 : ((S : Int) % 2 == 1) = true := by show ((((S) % 2 : Nat) : Int) == 1) = true; rw [hbs]; rfl
            have hb2 : ((S : Int).tmod 2 == 1) = true := by show ((((S) % 2 : Nat) : Int) == 1) = true; rw [hbs]; rfl
            have HON := Lib.hid (setPre_app S 0 hbit)
            clear hbit hbs
            go_wp2
            go_round
            case rel => exact ⟨0 + 1, _, by go_num, rfl, by omega, Lib.hid (by rw [HON.out, ← hy.out]; rfl)⟩
            case measure => simp only [intOf]; omega
          · have hbz : S % 2 = 0 := by omega
            have hb1 : ((S : Int) % 2 == 1) = false := by show ((((S) % 2 : Nat) : Int) == 1) = false; rw [hbz]; rfl
            have hb2 : ((S : Int).tmod 2 == 1) = false := by show ((((S) % 2 : Nat) : Int) == 1) = false; rw [hbz]; rfl
            have HOFF := Lib.hid (setPre_non S 0 hbit)
            clear hbit hbz
            go_wp2
            go_round
            case rel => exact ⟨0 + 1, _, by go_num, rfl, by omega, Lib.hid (by rw [HOFF.out]; exact hy.out)⟩
            case measure => simp only [intOf]; omega
        · have hw1 : ((1 : Nat) : Int) = 1 := rfl
          have hlen : y.size ≤ 5 := by rw [hy.out, B_size]; exact Nat.le_trans (setPre_len S 1) (by decide)
          have hsum : ¬ 9223372036854775807 < y.size + 1 := by omega
          clear hlen
          by_cases hbit : S / 2 % 2 = 1
          · have hbs : S / 2 % 2 = 1 := by omega
            have hb1 : (((S : Int) / 2) % 2 == 1) = true := by show ((((S / 2) % 2 : Nat) : Int) == 1) = true; rw [hbs]; rfl
            have hb2 : (((S : Int) / 2).tmod 2 == 1) = true := by show ((((S / 2) % 2 : Nat) : Int) == 1) = true; rw [hbs]; rfl
            have HON := Lib.hid (setPre_app S 1 hbit)
            clear hbit hbs
            go_wp2
            go_round
            case rel => exact ⟨1 + 1, _, by go_num, rfl, by omega, Lib.hid (by rw [HON.out, ← hy.out]; rfl)⟩
            case measure => simp only [intOf]; omega
          · have hbz : S / 2 % 2 = 0 := by omega
            have hb1 : (((S : Int) / 2) % 2 == 1) = false := by show ((((S / 2) % 2 : Nat) : Int) == 1) = false; rw [hbz]; rfl
            have hb2 : (((S : Int) / 2).tmod 2 == 1) = false := by show ((((S / 2) % 2 : Nat) : Int) == 1) = false; rw [hbz]; rfl
            have HOFF := Lib.hid (setPre_non S 1 hbit)
            clear hbit hbz
            go_wp2
            go_round
            case rel => exact ⟨1 + 1, _, by go_num, rfl, by omega, Lib.hid (by rw [HOFF.out]; exact hy.out)⟩
            case measure => simp only [intOf]; omega
        · have hw1 : ((2 : Nat) : Int) = 2 := rfl
          have hlen : y.size ≤ 5 := by rw [hy.out, B_size]; exact Nat.le_trans (setPre_len S 2) (by decide)
          have hsum : ¬ 9223372036854775807 < y.size + 1 := by omega
          clear hlen
          by_cases hbit : S / 4 % 2 = 1
          · have hbs : S / 4 % 2 = 1 := by omega
            have hb1 : (((S : Int) / 4) % 2 == 1) = true := by show ((((S / 4) % 2 : Nat) : Int) == 1) = true; rw [hbs]; rfl
            have hb2 : (((S : Int) / 4).tmod 2 == 1) = true := by show ((((S / 4) % 2 : Nat) : Int) == 1) = true; rw [hbs]; rfl
            have HON := Lib.hid (setPre_app S 2 hbit)
            clear hbit hbs
            go_wp2
            go_round
            case rel => exact ⟨2 + 1, _, by go_num, rfl, by omega, Lib.hid (by rw [HON.out, ← hy.out]; rfl)⟩
            case measure => simp only [intOf]; omega
          · have hbz : S / 4 % 2 = 0 := by omega
            have hb1 : (((S : Int) / 4) % 2 == 1) = false := by show ((((S / 4) % 2 : Nat) : Int) == 1) = false; rw [hbz]; rfl
            have hb2 : (((S : Int) / 4).tmod 2 == 1) = false := by show ((((S / 4) % 2 : Nat) : Int) == 1) = false; rw [hbz]; rfl
            have HOFF := Lib.hid (setPre_non S 2 hbit)
            clear hbit hbz
            go_wp2
            go_round
            case rel => exact ⟨2 + 1, _, by go_num, rfl, by omega, Lib.hid (by rw [HOFF.out]; exact hy.out)⟩
            case measure => simp only [intOf]; omega
        · have hw1 : ((3 : Nat) : Int) = 3 := rfl
          have hlen : y.size ≤ 5 := by rw [hy.out, B_size]; exact Nat.le_trans (setPre_len S 3) (by decide)
          have hsum : ¬ 9223372036854775807 < y.size + 1 := by omega
          clear hlen
          by_cases hbit : S / 8 % 2 = 1
          · have hbs : S / 8 % 2 = 1 := by omega
            have hb1 : (((S : Int) / 8) % 2 == 1) = true := by show ((((S / 8) % 2 : Nat) : Int) == 1) = true; rw [hbs]; rfl
            have hb2 : (((S : Int) / 8).tmod 2 == 1) = true := by show ((((S / 8) % 2 : Nat) : Int) == 1) = true; rw [hbs]; rfl
            have HON := Lib.hid (setPre_app S 3 hbit)
            clear hbit hbs
            go_wp2
            go_round
            case rel => exact ⟨3 + 1, _, by go_num, rfl, by omega, Lib.hid (by rw [HON.out, ← hy.out]; rfl)⟩
            case measure => simp only [intOf]; omega
          · have hbz : S / 8 % 2 = 0 := by omega
            have hb1 : (((S : Int) / 8) % 2 == 1) = false := by show ((((S / 8) % 2 : Nat) : Int) == 1) = false; rw [hbz]; rfl
            have hb2 : (((S : Int) / 8).tmod 2 == 1) = false := by show ((((S / 8) % 2 : Nat) : Int) == 1) = false; rw [hbz]; rfl
            have HOFF := Lib.hid (setPre_non S 3 hbit)
            clear hbit hbz
            go_wp2
            go_round
            case rel => exact ⟨3 + 1, _, by go_num, rfl, by omega, Lib.hid (by rw [HOFF.out]; exact hy.out)⟩
            case measure => simp only [intOf]; omega
        · have hw1 : ((4 : Nat) : Int) = 4 := rfl
          have hlen : y.size ≤ 5 := by rw [hy.out, B_size]; exact Nat.le_trans (setPre_len S 4) (by decide)
          have hsum : ¬ 9223372036854775807 < y.size + 1 := by omega
          clear hlen
          by_cases hbit : S / 16 % 2 = 1
          · have hbs : S / 16 % 2 = 1 := by omega
            have hb1 : (((S : Int) / 16) % 2 == 1) = true := by show ((((S / 16) % 2 : Nat) : Int) == 1) = true; rw [hbs]; rfl
            have hb2 : (((S : Int) / 16).tmod 2 == 1) = true := by show ((((S / 16) % 2 : Nat) : Int) == 1) = true; rw [hbs]; rfl
            have HON := Lib.hid (setPre_app S 4 hbit)
            clear hbit hbs
            go_wp2
            go_round
            case rel => exact ⟨4 + 1, _, by go_num, rfl, by omega, Lib.hid (by rw [HON.out, ← hy.out]; rfl)⟩
            case measure => simp only [intOf]; omega
          · have hbz : S / 16 % 2 = 0 := by omega
            have hb1 : (((S : Int) / 16) % 2 == 1) = false := by show ((((S / 16) % 2 : Nat) : Int) == 1) = false; rw [hbz]; rfl
            have hb2 : (((S : Int) / 16).tmod 2 == 1) = false := by show ((((S / 16) % 2 : Nat) : Int) == 1) = false; rw [hbz]; rfl
            have HOFF := Lib.hid (setPre_non S 4 hbit)
            clear hbit hbz
            go_wp2
            go_round
            case rel => exact ⟨4 + 1, _, by go_num, rfl, by omega, Lib.hid (by rw [HOFF.out]; exact hy.out)⟩
            case measure => simp only [intOf]; omega
      · obtain rfl : k = 5 := by omega
        have HY := Lib.hid hy.out
        go_wp2
        go_ret
        exact ⟨ret1 (v_str HY.out), Below.refl _ _⟩

end Go.Proofs.YthaooekohjmhdaaDoor
