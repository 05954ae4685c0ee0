/- Walks of layer 25's texts: name, Itoa, setName. Condition: the library's tables hold what their text lays. -/
import Derived.Test.YthaooekohjmhdaaDoorPrnB
import Derived.Test.YthaooekohjmhdaaDoorPrnS
import Derived.Test.YthaooekohjmhdaaDoorQuiet
import Derived.Shelf.Strings.PiecesUse
import Derived.Lib.AppendIntMem
set_option linter.unusedVariables false
set_option linter.unusedSimpArgs false
namespace Go.Proofs.YthaooekohjmhdaaDoor
open Go.RowKit

/-- The tables that strconv.Itoa and strings.Fields read, in w and behind it. -/
structure Tb (w : World) : Prop where
  p : ∀ w', Below w.heap.size w w' → Lib.TabIs Tryd.prog w' "internal/strconv.uint64pow10" .u64 Lib.pow10Tab
  s : ∀ w', Below w.heap.size w w' → Lib.TabIs Tryd.prog w' "strings.asciiSpace" .u8 Lib.asciiSpaceTab
theorem Tb.step {w w' : World} (h : Tb w) (hb : Below w.heap.size w w') : Tb w' :=
  ⟨fun v hv => h.p v (hb.trans (hv.mono hb.size)), fun v hv => h.s v (hb.trans (hv.mono hb.size))⟩
theorem Tb.hp {w : World} (h : Tb w) : Lib.TabIs Tryd.prog w "internal/strconv.uint64pow10" .u64 Lib.pow10Tab := h.p w (Below.refl _ _)
theorem Tb.hs {w : World} (h : Tb w) : Lib.TabIs Tryd.prog w "strings.asciiSpace" .u8 Lib.asciiSpaceTab := h.s w (Below.refl _ _)

theorem asm_Itoa (n : Int) (h0 : -9223372036854775808 ≤ n) (h1 : n ≤ 9223372036854775807) (w : World) (ht : Tb w) :
    Calls Tryd.prog 20 #[.int .i64 n] w fun e w' => e = .returned (.string (num n)) ∧ Below w.heap.size w w' := by
  refine (Tryd.strconv_Itoa n h0 h1 w ht.hp).mono ?_
  rintro e w' ⟨rfl, k, os, rfl⟩
  exact ⟨rfl, Lib.below_grow _ w (Nat.le_refl _) k os⟩

theorem flds_formats : Lib.fieldsB ⟨#[104, 32, 98, 32, 115, 32, 100]⟩ = fmtN := by decide +kernel

set_option maxHeartbeats 1000000 in
theorem asm_name (cs : ByteArray) (L : List ByteArray) (hL : Lib.fieldsB cs = L) (hs : cs.size < 4294967281) (hascii : ∀ (j : Nat) b, cs.data.toList[j]? = some b → b.toNat < 128)
    (n : Int) (h0 : 0 ≤ n) (h1 : n < L.length) (w : World) (ht : Tb w) :
    Calls Tryd.prog 19 #[.string cs, .int .i64 n] w fun e w' => e = .returned (.string (nth L n)) ∧ Below w.heap.size w w' := by
  have cF := Tryd.strings_Fields cs w hs hascii ht.hs
  rw [Lib.fields_pieces, ← Lib.fieldsB_length, hL] at cF
  have hb : Below w.heap.size w (w.alloc (.cells (L.map Value.string).toArray 9)) := (Below.refl _ _).alloc (Nat.le_refl _) _
  have hc := Lib.pieces_cell_at w L 9 n.toNat _ (nth_some h0 h1)
  generalize w.alloc (.cells (L.map Value.string).toArray 9) = W at *
  have hlen : ((L.length : Nat) : Int) ≤ 4294967296 := by
    rw [← hL, Lib.fieldsB_length, Lib.fields_length]
    have : ∀ (l : List UInt8) (b : Bool), Lib.cntF b l ≤ l.length := fun l => by
      induction l with
      | nil => intro b; simp [Lib.cntF]
      | cons x t ih => intro b; have := ih (Lib.isSp x); simp only [Lib.cntF, List.length_cons]; split <;> omega
    have := this cs.data.toList true
    rw [← Lib.size_eq] at this
    omega
  clear hL hs hascii
  generalize nth L n = x at *
  generalize L.length = len at *
  go_enter Tryd.func19, Tryd.ntmps19
  go_wp2_with (go_at_call 32; refine cF.mono ?_; rintro e w' ⟨rfl, rfl⟩)
  go_ret
  exact ⟨rfl, hb⟩


theorem bit1 : ∀ x : Fin 32, (bits .and .i64 (((x.val : Nat)) : Int) 1 == 1) = decide (x.val % 2 = 1) := by decide +kernel
theorem bitOf (S q : Nat) (X : Int) (hX : X = ((S / q : Nat) : Int)) (hS : S < 32) : (bits .and .i64 X 1 == 1) = decide (S / q % 2 = 1) := by
  subst hX
  have : S / q < 32 := Nat.lt_of_le_of_lt (Nat.div_le_self _ _) hS
  exact bit1 ⟨S / q, this⟩
theorem setPre_on (S k : Nat) (h : S / 2 ^ k % 2 = 1) : Lib.byteCells (setPre S (k + 1)) = Lib.byteCells (setPre S k) ++ [.int .u8 ((([105, 122, 111, 117, 120] : List UInt8).getD k 0).toNat : Int)] := by
  unfold Lib.byteCells
  rw [setPre, if_pos h, List.map_append]
  rfl
theorem setPre_off (S k : Nat) (h : ¬ S / 2 ^ k % 2 = 1) : setPre S (k + 1) = setPre S k := by
  rw [setPre, if_neg h, List.append_nil]
theorem byteCells_setPre (S k : Nat) : (Lib.byteCells (setPre S k)).length ≤ k := by
  rw [Lib.byteCells_length]
  exact setPre_len S k

set_option maxHeartbeats 2000000 in
theorem asm_setName (s : Int) (h0 : 0 ≤ s) (h1 : s < 32) (w : World) :
    Calls Tryd.prog 21 #[.int .i64 s] w fun e w' => e = .returned (.string (setN s)) ∧ Below w.heap.size w w' := by
  by_cases hz : s = 0
  · subst hz
    go_enter Tryd.func21, Tryd.ntmps21
    go_wp2
    go_ret
    exact ⟨rfl, Below.refl _ _⟩
  · have hz' : (s == 0) = false := by simpa using hz
    have hfin : setN s = B (setPre s.toNat 5) := by unfold setN; rw [if_neg hz]
    rw [hfin]
    clear hfin
    obtain ⟨S, rfl⟩ : ∃ S : Nat, s = (S : Int) := ⟨s.toNat, by omega⟩
    have hS : S < 32 := by omega
    rw [Int.toNat_natCast]
    go_enter Tryd.func21, Tryd.ntmps21
    go_wp2
    have hb0 : Below w.heap.size w (w.alloc (.cells #[.pointer none, .slice none 0 0] 66)) := (Below.refl _ _).alloc (Nat.le_refl _) _
    have hB0 := Lib.fresh_isBuilder 66 5 w
    go_loopw [7] (fun t wr => ∃ k : Nat, t = .int .i64 (k : Int) ∧ k ≤ 5 ∧ Hid (Lib.IsBuilder 66 5 w.heap.size w.heap.size (Lib.byteCells (setPre S k)) wr) ∧ Hid (Below w.heap.size w wr)) (fun t _ => 5 - (intOf t).toNat)
    case atStart => exact ⟨0, rfl, by omega, Lib.hid hB0, Lib.hid hb0⟩
    case round =>
      obtain ⟨k, rfl, hk, hB, hb⟩ := hrel
      clear hb0 hB0
      by_cases hlt : k < 5
      · have hcs : k = 0 ∨ k = 1 ∨ k = 2 ∨ k = 3 ∨ k = 4 := by omega
        rcases hcs with rfl | rfl | rfl | rfl | rfl
        · have hD := bitOf S 1 (S : Int) (by simp) hS
          have hLen := byteCells_setPre S 0
          by_cases hbit : S / 1 % 2 = 1
          · have hX : (bits .and .i64 (S : Int) 1 == 1) = true := by rw [hD]; simpa using hbit
            have HON := Lib.hid (setPre_on S 0 hbit)
            have hwb := sb_WriteByte w.heap.size w.heap.size (Lib.byteCells (setPre S 0)) 105 wr hB.out (by omega) hb.out.size
            clear hbit hD
            go_wp2_with (go_at_call 34; refine hwb.mono ?_; rintro e w' ⟨rfl, hB', hb'⟩)
            go_roundw
            case rel => exact ⟨0 + 1, by go_num, by omega, Lib.hid (Or.inr (HON.out ▸ hB')), Lib.hid (hb.out.trans hb')⟩
            case measure => simp only [intOf]; omega
          · have hX : (bits .and .i64 (S : Int) 1 == 1) = false := by rw [hD]; simpa using hbit
            have HOFF := Lib.hid (setPre_off S 0 hbit)
            clear hbit hD
            go_wp2
            go_roundw
            case rel => exact ⟨0 + 1, by go_num, by omega, Lib.hid (by rw [HOFF.out]; exact hB.out), hb⟩
            case measure => simp only [intOf]; omega
        · have hD := bitOf S 2 ((S : Int) / 2) (rfl) hS
          have hLen := byteCells_setPre S 1
          by_cases hbit : S / 2 % 2 = 1
          · have hX : (bits .and .i64 ((S : Int) / 2) 1 == 1) = true := by rw [hD]; simpa using hbit
            have HON := Lib.hid (setPre_on S 1 hbit)
            have hwb := sb_WriteByte w.heap.size w.heap.size (Lib.byteCells (setPre S 1)) 122 wr hB.out (by omega) hb.out.size
            clear hbit hD
            go_wp2_with (go_at_call 34; refine hwb.mono ?_; rintro e w' ⟨rfl, hB', hb'⟩)
            go_roundw
            case rel => exact ⟨1 + 1, by go_num, by omega, Lib.hid (Or.inr (HON.out ▸ hB')), Lib.hid (hb.out.trans hb')⟩
            case measure => simp only [intOf]; omega
          · have hX : (bits .and .i64 ((S : Int) / 2) 1 == 1) = false := by rw [hD]; simpa using hbit
            have HOFF := Lib.hid (setPre_off S 1 hbit)
            clear hbit hD
            go_wp2
            go_roundw
            case rel => exact ⟨1 + 1, by go_num, by omega, Lib.hid (by rw [HOFF.out]; exact hB.out), hb⟩
            case measure => simp only [intOf]; omega
        · have hD := bitOf S 4 ((S : Int) / 4) (rfl) hS
          have hLen := byteCells_setPre S 2
          by_cases hbit : S / 4 % 2 = 1
          · have hX : (bits .and .i64 ((S : Int) / 4) 1 == 1) = true := by rw [hD]; simpa using hbit
            have HON := Lib.hid (setPre_on S 2 hbit)
            have hwb := sb_WriteByte w.heap.size w.heap.size (Lib.byteCells (setPre S 2)) 111 wr hB.out (by omega) hb.out.size
            clear hbit hD
            go_wp2_with (go_at_call 34; refine hwb.mono ?_; rintro e w' ⟨rfl, hB', hb'⟩)
            go_roundw
            case rel => exact ⟨2 + 1, by go_num, by omega, Lib.hid (Or.inr (HON.out ▸ hB')), Lib.hid (hb.out.trans hb')⟩
            case measure => simp only [intOf]; omega
          · have hX : (bits .and .i64 ((S : Int) / 4) 1 == 1) = false := by rw [hD]; simpa using hbit
            have HOFF := Lib.hid (setPre_off S 2 hbit)
            clear hbit hD
            go_wp2
            go_roundw
            case rel => exact ⟨2 + 1, by go_num, by omega, Lib.hid (by rw [HOFF.out]; exact hB.out), hb⟩
            case measure => simp only [intOf]; omega
        · have hD := bitOf S 8 ((S : Int) / 8) (rfl) hS
          have hLen := byteCells_setPre S 3
          by_cases hbit : S / 8 % 2 = 1
          · have hX : (bits .and .i64 ((S : Int) / 8) 1 == 1) = true := by rw [hD]; simpa using hbit
            have HON := Lib.hid (setPre_on S 3 hbit)
            have hwb := sb_WriteByte w.heap.size w.heap.size (Lib.byteCells (setPre S 3)) 117 wr hB.out (by omega) hb.out.size
            clear hbit hD
            go_wp2_with (go_at_call 34; refine hwb.mono ?_; rintro e w' ⟨rfl, hB', hb'⟩)
            go_roundw
            case rel => exact ⟨3 + 1, by go_num, by omega, Lib.hid (Or.inr (HON.out ▸ hB')), Lib.hid (hb.out.trans hb')⟩
            case measure => simp only [intOf]; omega
          · have hX : (bits .and .i64 ((S : Int) / 8) 1 == 1) = false := by rw [hD]; simpa using hbit
            have HOFF := Lib.hid (setPre_off S 3 hbit)
            clear hbit hD
            go_wp2
            go_roundw
            case rel => exact ⟨3 + 1, by go_num, by omega, Lib.hid (by rw [HOFF.out]; exact hB.out), hb⟩
            case measure => simp only [intOf]; omega
        · have hD := bitOf S 16 ((S : Int) / 16) (rfl) hS
          have hLen := byteCells_setPre S 4
          by_cases hbit : S / 16 % 2 = 1
          · have hX : (bits .and .i64 ((S : Int) / 16) 1 == 1) = true := by rw [hD]; simpa using hbit
            have HON := Lib.hid (setPre_on S 4 hbit)
            have hwb := sb_WriteByte w.heap.size w.heap.size (Lib.byteCells (setPre S 4)) 120 wr hB.out (by omega) hb.out.size
            clear hbit hD
            go_wp2_with (go_at_call 34; refine hwb.mono ?_; rintro e w' ⟨rfl, hB', hb'⟩)
            go_roundw
            case rel => exact ⟨4 + 1, by go_num, by omega, Lib.hid (Or.inr (HON.out ▸ hB')), Lib.hid (hb.out.trans hb')⟩
            case measure => simp only [intOf]; omega
          · have hX : (bits .and .i64 ((S : Int) / 16) 1 == 1) = false := by rw [hD]; simpa using hbit
            have HOFF := Lib.hid (setPre_off S 4 hbit)
            clear hbit hD
            go_wp2
            go_roundw
            case rel => exact ⟨4 + 1, by go_num, by omega, Lib.hid (by rw [HOFF.out]; exact hB.out), hb⟩
            case measure => simp only [intOf]; omega
      · obtain rfl : k = 5 := by omega
        have hst := Tryd.Builder_String_any w.heap.size w.heap.size (setPre S 5) wr hB.out hb.out.size
        go_wp2_with (go_at_call 27; refine hst.mono ?_; rintro e w' ⟨rfl, hw'⟩)
        go_ret
        exact ⟨rfl, hb.out.trans hw'⟩

end Go.Proofs.YthaooekohjmhdaaDoor
