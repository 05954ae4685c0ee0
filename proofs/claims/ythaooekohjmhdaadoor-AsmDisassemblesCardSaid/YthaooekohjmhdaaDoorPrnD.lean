/- Walks of the document's texts of layer 25: lists of names, Number, reg, SetName. No condition. -/
import Derived.Test.YthaooekohjmhdaaDoorPrnS
import Derived.Test.YthaooekohjmhdaaDoorKit
import Derived.Test.YthaooekohjmhdaaDoorQuiet
import Derived.Deep.RegionHeld3
import Derived.Deep.CutRange
import Derived.Laws.IdiomStrings
import Derived.BigRegion
set_option linter.unusedVariables false
set_option linter.unusedSimpArgs false
namespace Go.Proofs.YthaooekohjmhdaaDoor
open Go.RowKit

theorem ref_formats (w : World) :
    Calls Tryd.prog 37 #[] w fun e w' => e = .returned (.slice (some ⟨w.heap.size, 0, none⟩) 4 4) ∧ w' = w.alloc (.cells (fmtN.map Value.string).toArray 9) := by
  go_enter Tryd.func37, Tryd.ntmps37
  go_wp2
  go_ret
  exact ⟨rfl, rfl⟩
theorem ref_kinds (w : World) :
    Calls Tryd.prog 38 #[] w fun e w' => e = .returned (.slice (some ⟨w.heap.size, 0, none⟩) 4 4) ∧ w' = w.alloc (.cells (kindN.map Value.string).toArray 9) := by
  go_enter Tryd.func38, Tryd.ntmps38
  go_wp2
  go_ret
  exact ⟨rfl, rfl⟩
theorem ref_modes (w : World) :
    Calls Tryd.prog 41 #[] w fun e w' => e = .returned (.slice (some ⟨w.heap.size, 0, none⟩) 6 6) ∧ w' = w.alloc (.cells (modeN.map Value.string).toArray 9) := by
  go_enter Tryd.func41, Tryd.ntmps41
  go_wp2
  go_ret
  exact ⟨rfl, rfl⟩
theorem ref_relations (w : World) :
    Calls Tryd.prog 36 #[] w fun e w' => e = .returned (.slice (some ⟨w.heap.size, 0, none⟩) 4 4) ∧ w' = w.alloc (.cells (relN.map Value.string).toArray 9) := by
  go_enter Tryd.func36, Tryd.ntmps36
  go_wp2
  go_ret
  exact ⟨rfl, rfl⟩

/-- Worlds in which all that wz has is as it is there. -/
abbrev Kq (wz w' : World) : Prop := Below wz.heap.size wz w' ∧ ∀ b o, b < wz.heap.size → w'.cell? ⟨b, o, none⟩ = wz.cell? ⟨b, o, none⟩
theorem Kq.of {wz w' : World} (h : Below wz.heap.size wz w') : Kq wz w' := ⟨h, fun b o hb => h.cell (p := ⟨b, o, none⟩) hb⟩
theorem Kq.step {wz a b : World} (h : Kq wz a) (hb : Below a.heap.size a b) : Kq wz b := Kq.of (h.1.trans (hb.mono h.1.size))
theorem Kq.bel {wz w' : World} (h : Kq wz w') : Below wz.heap.size wz w' := h.1

theorem num_sz (n : Int) (h0 : -9223372036854775808 ≤ n) (h1 : n ≤ 9223372036854775807) : (num n).size ≤ 21 := by
  have := Lib.itoa_length_le n h0 h1
  show (Lib.itoa n).toArray.size ≤ 21
  simpa using this
theorem byte_of {x : Nat} (hx : x < 10) : (((UInt8.ofNat (48 + x)).toNat : Nat) : Int) = 48 + (x : Int) := by
  have : ∀ y : Fin 10, (((UInt8.ofNat (48 + y.val)).toNat : Nat) : Int) = 48 + (y.val : Int) := by decide
  exact this ⟨x, hx⟩
theorem one_digit {x : Nat} (hx : x < 10) (g : Nat) (W : World) (h : W.cell? ⟨g, 0, none⟩ = some (.int .u8 (48 + (x : Int)))) :
    (convert 64 9 (.slice (some ⟨g, 0, none⟩) 1 1)).run Tryd.prog W = .ok (.string ⟨#[UInt8.ofNat (48 + x)]⟩) W := by
  have := run_convert_bytes_back (P := Tryd.prog) W 64 9 5 ⟨g, 0, none⟩ 1 [UInt8.ofNat (48 + x)] Tryd.underlying64 Tryd.underlying5 Tryd.underlying9 (by
    intro j hj
    have : j = 0 := by simpa using hj
    subst this
    show W.cell? ⟨g, 0 + 0, none⟩ = _
    rw [Nat.add_zero, h]
    simp only [List.getElem_cons_zero, byte_of hx])
  exact this

set_option maxRecDepth 100000 in
set_option maxHeartbeats 1000000 in
theorem ref_Number_small (x : Nat) (hx : x < 10) (w : World) :
    Calls Tryd.prog 40 #[.int .i64 x] w fun e w' => e = .returned (.string (num x)) ∧ Below w.heap.size w w' := by
  have h1 : num (x : Int) = ⟨#[UInt8.ofNat (48 + x)]⟩ := by
    unfold num Lib.itoa
    rw [if_neg (by omega), Int.toNat_natCast, Lib.decDigits_one hx]
    rfl
  rw [h1]
  clear h1
  have hcv := one_digit hx
  generalize UInt8.ofNat (48 + x) = bt at *
  have hw : IntKind.u8.wrap (48 + (x : Int)) = 48 + (x : Int) := IntWalk.u8_in _ (by omega)
  have hw2 : IntKind.i64.wrap (48 + (x : Int)) = 48 + (x : Int) := IntWalk.i64_in _ (by omega)
  have hlt : ((x : Int) < 10) := by omega
  go_enter Tryd.func40, Tryd.ntmps40
  go_wp2
  go_ret
  exact ⟨rfl, (Below.refl _ _).alloc (Nat.le_refl _) _⟩

theorem num_step (x : Nat) (hx : ¬ x < 10) : num (x : Int) = num ((x / 10 : Nat) : Int) ++ ⟨#[UInt8.ofNat (48 + x % 10)]⟩ := by
  apply B_ext
  rw [append_list]
  unfold num Lib.itoa
  rw [if_neg (by omega), if_neg (by omega), Int.toNat_natCast, Int.toNat_natCast, B_data, B_data, Lib.decDigits, dif_neg hx]

set_option maxRecDepth 100000 in
set_option maxHeartbeats 300000 in
theorem ref_Number_step (x : Nat) (hx : ¬ x < 10) (hb : x < 9223372036854775807) (ih : ∀ w, Calls Tryd.prog 40 #[.int .i64 ((x / 10 : Nat) : Int)] w fun e w' => e = .returned (.string (num ((x / 10 : Nat) : Int))) ∧ Below w.heap.size w w') (w : World) :
    Calls Tryd.prog 40 #[.int .i64 x] w fun e w' => e = .returned (.string (num x)) ∧ Below w.heap.size w w' := by
  rw [num_step x hx]
  have hcv := one_digit (Nat.mod_lt x (show 0 < 10 by omega))
  generalize UInt8.ofNat (48 + x % 10) = bt at *
  have hw : IntKind.u8.wrap (48 + ((x % 10 : Nat) : Int)) = 48 + ((x % 10 : Nat) : Int) := IntWalk.u8_in _ (by omega)
  have hw2 : IntKind.i64.wrap (48 + ((x % 10 : Nat) : Int)) = 48 + ((x % 10 : Nat) : Int) := IntWalk.i64_in _ (by omega)
  have hlt : ¬ ((x : Int) < 10) := by omega
  have hq1 : (x : Int).tdiv 10 = ((x / 10 : Nat) : Int) := rfl
  have hq2 : (x : Int) / 10 = ((x / 10 : Nat) : Int) := rfl
  have hr1 : (x : Int).tmod 10 = ((x % 10 : Nat) : Int) := rfl
  have hr2 : (x : Int) % 10 = ((x % 10 : Nat) : Int) := rfl
  have hqb : x / 10 < 9223372036854775807 := by omega
  have hrb : x % 10 < 10 := by omega
  generalize x / 10 = q at *
  generalize x % 10 = r at *
  have hz := num_sz (q : Int) (by omega) (by omega)
  have r1 : ∀ W, (Op.stringOp .add (num q) ⟨#[bt]⟩).run Tryd.prog W = .ok (.string (num q ++ ⟨#[bt]⟩)) W := fun W => run_string_add_sum W _ _ (by have : (⟨#[bt]⟩ : ByteArray).size = 1 := rfl; omega)
  clear hz
  have hqw : IntKind.i64.wrap (q : Int) = q := IntWalk.i64_in _ (by omega)
  have hrw : IntKind.i64.wrap (r : Int) = r := IntWalk.i64_in _ (by omega)
  go_enter Tryd.func40, Tryd.ntmps40
  go_upto_region 5 with fail
  go_region_with (first
      | (go_at_call 40; refine (ih _).mono ?_; rintro e' w3 ⟨rfl, hb3⟩; obtain ⟨hc3, hf3⟩ := bcell hb3))
  all_goals
    have hbase : Below w.heap.size w w.drew := Below.drew (Below.refl _ _)
    go_wp2
    go_ret
    first
      | exact ⟨rfl, (hbase.trans hb3).alloc hb3.size _⟩
      | exact ⟨rfl, (hbase.alloc (Nat.le_refl _) _).trans (hb3.mono (by simp))⟩

theorem ref_Number_nat : ∀ (n x : Nat), x ≤ n → x < 9223372036854775807 → ∀ w, Calls Tryd.prog 40 #[.int .i64 x] w fun e w' => e = .returned (.string (num x)) ∧ Below w.heap.size w w'
  | 0, x, h, _, w => ref_Number_small x (by omega) w
  | n + 1, x, h, hb, w => by
    by_cases hx : x < 10
    · exact ref_Number_small x hx w
    · exact ref_Number_step x hx hb (fun w => ref_Number_nat n (x / 10) (by omega) (by omega) w) w

theorem num_neg (x : Nat) (h : 0 < x) : num (-(x : Int)) = ⟨#[45]⟩ ++ num (x : Int) := by
  apply B_ext
  rw [append_list]
  unfold num Lib.itoa
  rw [if_pos (by omega), if_neg (by omega), B_data, B_data, Int.natAbs_neg, Int.natAbs_natCast, Int.toNat_natCast]
  rfl

set_option maxRecDepth 100000 in
set_option maxHeartbeats 1000000 in
theorem ref_Number_neg (x : Nat) (hx : 0 < x) (hb : x < 9223372036854775807) (w : World) :
    Calls Tryd.prog 40 #[.int .i64 (-(x : Int))] w fun e w' => e = .returned (.string (num (-(x : Int)))) ∧ Below w.heap.size w w' := by
  rw [num_neg x hx]
  have ih := ref_Number_nat x x (Nat.le_refl _) hb
  have hz := num_sz (x : Int) (by omega) (by omega)
  have r1 : ∀ W, (Op.stringOp .add ⟨#[45]⟩ (num x)).run Tryd.prog W = .ok (.string (⟨#[45]⟩ ++ num x)) W := fun W => run_string_add_sum W _ _ (by have : (⟨#[45]⟩ : ByteArray).size = 1 := rfl; omega)
  clear hz
  have hlt : (-(x : Int)) < 0 := by omega
  have hxw : IntKind.i64.wrap (x : Int) = x := IntWalk.i64_in _ (by omega)
  go_enter Tryd.func40, Tryd.ntmps40
  go_wp2_with (go_at_call 40; refine (ih _).mono ?_; rintro e' w3 ⟨rfl, hb3⟩)
  go_ret
  exact ⟨rfl, hb3⟩

theorem ref_Number (x : Int) (h0 : -9223372036854775807 < x) (h1 : x < 9223372036854775807) (w : World) :
    Calls Tryd.prog 40 #[.int .i64 x] w fun e w' => e = .returned (.string (num x)) ∧ Below w.heap.size w w' := by
  rcases Int.lt_or_le x 0 with h | h
  · obtain ⟨n, rfl⟩ : ∃ n : Nat, x = -(n : Int) := ⟨x.natAbs, by omega⟩
    exact ref_Number_neg n (by omega) (by omega) w
  · obtain ⟨n, rfl⟩ : ∃ n : Nat, x = (n : Int) := ⟨x.toNat, by omega⟩
    exact ref_Number_nat n n (Nat.le_refl _) (by omega) w

set_option maxHeartbeats 1000000 in
theorem ref_reg (x : Int) (h0 : 0 ≤ x) (h1 : x ≤ 31) (w : World) :
    Calls Tryd.prog 39 #[.int .i64 x] w fun e w' => e = .returned (.string (regN x)) ∧ Below w.heap.size w w' := by
  have ih := ref_Number x (by omega) (by omega)
  have hz := num_sz x (by omega) (by omega)
  have r1 : ∀ W, (Op.stringOp .add ⟨#[114]⟩ (num x)).run Tryd.prog W = .ok (.string (⟨#[114]⟩ ++ num x)) W := fun W => run_string_add_sum W _ _ (by have : (⟨#[114]⟩ : ByteArray).size = 1 := rfl; omega)
  clear hz h0 h1
  go_enter Tryd.func39, Tryd.ntmps39
  go_wp2_with (go_at_call 40; refine (ih _).mono ?_; rintro e' w3 ⟨rfl, hb3⟩)
  go_ret
  exact ⟨rfl, hb3⟩

end Go.Proofs.YthaooekohjmhdaaDoor
