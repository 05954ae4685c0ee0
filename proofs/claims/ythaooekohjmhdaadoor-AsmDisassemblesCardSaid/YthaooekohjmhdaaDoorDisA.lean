/- Walks of the law AsmDisassembles' own small functions: copied, same. Condition: sizes. -/
import Derived.Test.YthaooekohjmhdaaDoorKit
import Derived.Test.YthaooekohjmhdaaDoorQuiet
import Derived.Laws.CopyOwn
import Derived.Lib.Hide
set_option linter.unusedVariables false
set_option linter.unusedSimpArgs false
namespace Go.Proofs.YthaooekohjmhdaaDoor
open Go.RowKit

/-- The slice value '.slice A xs.length c' reads as the words xs, and lies below block B. -/
def Nw (w : World) (B : Nat) (A : Option Addr) (xs : List Nat) : Prop :=
  0 < xs.length → ∃ b o, A = some ⟨b, o, none⟩ ∧ b < B ∧ ∀ j, j < xs.length → w.cell? ⟨b, o + j, none⟩ = some (.int .u64 ((xs.getD j 0 : Nat) : Int))
theorem Nw.keep {w w' : World} {B : Nat} {A : Option Addr} {xs : List Nat} (h : Nw w B A xs) (hk : ∀ b o, b < B → w'.cell? ⟨b, o, none⟩ = w.cell? ⟨b, o, none⟩) : Nw w' B A xs := fun hp => by
  obtain ⟨b, o, hA, hb, hc⟩ := h hp
  exact ⟨b, o, hA, hb, fun j hj => (hk b (o + j) hb).trans (hc j hj)⟩
theorem Nw.more {w : World} {B B' : Nat} {A : Option Addr} {xs : List Nat} (h : Nw w B A xs) (hB : B ≤ B') : Nw w B' A xs := fun hp => by
  obtain ⟨b, o, hA, hb, hc⟩ := h hp
  exact ⟨b, o, hA, by omega, hc⟩
theorem Nw.below {w w' : World} {B : Nat} {A : Option Addr} {xs : List Nat} (h : Nw w B A xs) (hb : Below B w w') : Nw w' B A xs := h.keep fun b o hbB => hb.cell (p := ⟨b, o, none⟩) hbB
theorem Nw.at_ {w : World} {B : Nat} {A : Option Addr} {xs : List Nat} (h : Nw w B A xs) {k : Nat} (hk : k < xs.length) :
    ∃ b o, A = some ⟨b, o, none⟩ ∧ b < B ∧ w.cell? ⟨b, o + k, none⟩ = some (.int .u64 ((xs.getD k 0 : Nat) : Int)) := by
  obtain ⟨b, o, hA, hb, hc⟩ := h (by omega)
  exact ⟨b, o, hA, hb, hc k hk⟩

theorem u64info : (Tryd.prog.info? 26).map (fun i => (i.zero, i.size, i.bytes)) = some (some (.int .u64 0), 1, 8) := by kernel_rfl

/-- The cells of a row of words. -/
def wcells (xs : List Nat) : Array Value := (xs.map fun x => Value.int .u64 ((x : Nat) : Int)).toArray
theorem wcells_size (xs : List Nat) : (wcells xs).size = xs.length := by simp [wcells]
theorem wcells_get (xs : List Nat) (i : Nat) (h : i < xs.length) : (wcells xs)[i]? = some (.int .u64 ((xs.getD i 0 : Nat) : Int)) := by
  simp [wcells, List.getD_eq_getElem?_getD, h]
theorem wcells_set (xs : List Nat) (i y : Nat) : (wcells xs).setIfInBounds i (.int .u64 ((y : Nat) : Int)) = wcells (xs.set i y) := by
  apply Array.ext'
  simp [wcells, List.map_set]
/-- Block g is a row of words. -/
def Row (w : World) (g : Nat) (xs : List Nat) : Prop := w.heap[g]? = some (.cells (wcells xs) 26 (0, 0))
theorem Row.lt {w : World} {g : Nat} {xs : List Nat} (h : Row w g xs) : g < w.heap.size := (Array.getElem?_eq_some_iff.1 h).1
theorem Row.cell {w : World} {g : Nat} {xs : List Nat} (h : Row w g xs) {i : Nat} (hi : i < xs.length) : w.cell? ⟨g, i, none⟩ = some (.int .u64 ((xs.getD i 0 : Nat) : Int)) := by
  unfold Row at h
  simp only [World.cell?, h]
  simpa using wcells_get xs i hi
theorem Row.frozen {w : World} {g : Nat} {xs : List Nat} (h : Row w g xs) (i : Nat) : w.frozen? ⟨g, i, none⟩ = false := by
  unfold Row at h
  simp [World.frozen?, h]
theorem Row.nw {w : World} {g : Nat} {xs : List Nat} (h : Row w g xs) {B : Nat} (hB : g < B) : Nw w B (some ⟨g, 0, none⟩) xs := fun _ => ⟨g, 0, rfl, hB, fun j hj => by rw [Nat.zero_add]; exact h.cell hj⟩
theorem Row.below {w w' : World} {B g : Nat} {xs : List Nat} (h : Row w g xs) (hb : Below B w w') (hg : g < B) : Row w' g xs := (hb.block g hg).trans h
theorem Row.set {w : World} {g : Nat} {xs : List Nat} (h : Row w g xs) (i y : Nat) : w.setCell ⟨g, i, none⟩ (.int .u64 ((y : Nat) : Int)) = setB w g (.cells (wcells (xs.set i y)) 26 (0, 0)) := by
  rw [setCell_block h, wcells_set]
theorem Row.new (w : World) (xs : List Nat) : Row (w.alloc (.cells (wcells xs) 26)) w.heap.size xs := heap_alloc_new w _
theorem Row.setB {w : World} {g : Nat} {xs ys : List Nat} (h : Row w g xs) : Row (setB w g (.cells (wcells ys) 26 (0, 0))) g ys := setB_get h.lt

theorem make_words (n : Nat) (hn : n * 8 ≤ 140737488355328) (w : World) :
    (Instr.makeSlice 41 (.int .i64 (n : Int)) (.int .i64 (n : Int))).run Tryd.prog w = .ok (.slice (some ⟨w.heap.size, 0, none⟩) n n) (w.alloc (.cells (wcells (List.replicate n 0)) 26)) := by
  obtain ⟨i0, hi0, hz0, hz1, hz2⟩ := info_parts u64info
  have h := run_make (P := Tryd.prog) w 41 26 i0 _ Tryd.underlying41 hi0 hz0 .i64 .i64 (n : Int) (n : Int) (by omega) (by omega) (by rw [hz2]; omega) (by omega)
  have e : madeCells (Value.int .u64 0).cells (n * 1) = wcells (List.replicate n 0) := by
    apply Array.ext
    · simp [madeCells, wcells]
    · intro i h1 h2
      simp [madeCells, wcells, Value.cells, Nat.mod_one]
  rw [h, hz1, Int.toNat_natCast, e]

set_option maxHeartbeats 1000000 in
theorem law_copied (w : World) (A : Option Addr) (c : Nat) (xs : List Nat) (h : Nw w w.heap.size A xs) (hn : xs.length * 8 ≤ 140737488355328) :
    Calls Tryd.prog 11 #[.slice A xs.length c] w fun e w' => e = .returned (.slice (some ⟨w.heap.size, 0, none⟩) xs.length xs.length) ∧ Below w.heap.size w w' ∧ Row w' w.heap.size xs := by
  have hmk := make_words xs.length hn
  have hr0 := Row.new w (List.replicate xs.length 0)
  have hb0 : Below w.heap.size w (w.alloc (.cells (wcells (List.replicate xs.length 0)) 26)) := (Below.refl _ _).alloc (Nat.le_refl _) _
  have hxl : xs.length ≤ 9223372036854775807 := by omega
  go_enter Tryd.func11, Tryd.ntmps11
  go_wp2
  generalize w.alloc (.cells (wcells (List.replicate xs.length 0)) 26) = w1 at *
  have HW := Lib.hid (h.below hb0)
  have HR := Lib.hid hr0
  have HB := Lib.hid hb0
  clear hmk hr0 hb0 h
  go_loopw [10] (fun t wr => ∃ (k : Nat) (zs : List Nat), t = .int .i64 (k : Int) ∧ k ≤ xs.length ∧ Hid (zs.length = xs.length ∧ ∀ j, j < k → zs.getD j 0 = xs.getD j 0) ∧ Hid (wr = setB w1 w.heap.size (.cells (wcells zs) 26 (0, 0)))) (fun t _ => xs.length - (intOf t).toNat)
  case atStart => exact ⟨0, _, rfl, Nat.zero_le _, Lib.hid ⟨by simp, fun j hj => by omega⟩, Lib.hid (setB_self HR.out).symm⟩
  case round =>
    obtain ⟨k, zs, rfl, hk, hz, hwr⟩ := hrel
    have hrow : Row wr w.heap.size zs := by rw [hwr.out]; exact HR.out.setB
    have hlt1 : w.heap.size < w1.heap.size := HR.out.lt
    by_cases hlt : k < xs.length
    · obtain ⟨b, o, rfl, hbB, hc⟩ := HW.out.at_ hlt
      have hcell : wr.cell? ⟨b, o + k, none⟩ = some (.int .u64 ((xs.getD k 0 : Nat) : Int)) := by
        rw [hwr.out, World.cell?_of_block (setB_other (by show b ≠ w.heap.size; omega))]
        exact hc
      have hcz : wr.cell? ⟨w.heap.size, k, none⟩ = some (.int .u64 ((zs.getD k 0 : Nat) : Int)) := hrow.cell (by rw [hz.out.1]; exact hlt)
      have hfz : wr.frozen? ⟨w.heap.size, k, none⟩ = false := hrow.frozen _
      have HST := Lib.hid (hrow.set k (xs.getD k 0))
      have HX := Lib.hid (show (zs.set k (xs.getD k 0)).length = xs.length ∧ ∀ j, j < k + 1 → (zs.set k (xs.getD k 0)).getD j 0 = xs.getD j 0 from by
        refine ⟨by rw [List.length_set]; exact hz.out.1, fun j hj => ?_⟩
        rw [List.getD_eq_getElem?_getD, List.getElem?_set]
        by_cases hjk : k = j
        · subst hjk
          rw [if_pos rfl, if_pos (by rw [hz.out.1]; exact hlt)]
          rfl
        · rw [if_neg hjk, ← List.getD_eq_getElem?_getD]
          exact hz.out.2 j (by omega))
      generalize xs.getD k 0 = x at *
      generalize zs.getD k 0 = z at *
      clear hc hrow
      go_wp2
      go_roundw
      case rel => exact ⟨k + 1, zs.set k x, by go_num, by omega, HX, Lib.hid (by rw [HST.out, hwr.out, setB_setB])⟩
      case measure => simp only [intOf]; omega
    · obtain rfl : k = xs.length := by omega
      have hfin : zs = xs := by
        apply List.ext_getElem?
        intro j
        by_cases hj : j < xs.length
        · have := hz.out.2 j hj
          rw [List.getD_eq_getElem?_getD, List.getD_eq_getElem?_getD, List.getElem?_eq_getElem hj, List.getElem?_eq_getElem (by rw [hz.out.1]; exact hj)] at this
          rw [List.getElem?_eq_getElem hj, List.getElem?_eq_getElem (by rw [hz.out.1]; exact hj)]
          simpa using this
        · rw [List.getElem?_eq_none (show zs.length ≤ j by rw [hz.out.1]; omega), List.getElem?_eq_none (show xs.length ≤ j by omega)]
      subst hfin
      have HFB := Lib.hid (show Below w.heap.size w wr by rw [hwr.out]; exact setB_below HB.out (Nat.le_refl _) _)
      have HROW := Lib.hid hrow
      clear hrow
      go_wp2
      go_ret
      exact ⟨rfl, HFB.out, HROW.out⟩

set_option maxHeartbeats 1000000 in
theorem law_same (w : World) (A C : Option Addr) (c d : Nat) (xs : List Nat) (hA : Nw w w.heap.size A xs) (hC : Nw w w.heap.size C xs) (hn : xs.length * 8 ≤ 140737488355328) :
    Calls Tryd.prog 14 #[.slice A xs.length c, .slice C xs.length d] w fun e w' => e = .returned (.bool true) ∧ ∃ n, w' = w.drewN n := by
  have hxl : xs.length ≤ 9223372036854775807 := by omega
  have HA := Lib.hid hA
  have HC := Lib.hid hC
  clear hA hC hn
  go_enter Tryd.func14, Tryd.ntmps14
  go_wp2
  go_loopw [13] (fun t wr => ∃ (k n : Nat), t = .int .i64 (k : Int) ∧ k ≤ xs.length ∧ wr = w.drewN n) (fun t _ => xs.length - (intOf t).toNat)
  case atStart => exact ⟨0, 0, rfl, Nat.zero_le _, rfl⟩
  case round =>
    obtain ⟨k, n, rfl, hk, rfl⟩ := hrel
    by_cases hlt : k < xs.length
    · obtain ⟨b, o, rfl, _, hc⟩ := HA.out.at_ hlt
      obtain ⟨b', o', rfl, _, hc'⟩ := HC.out.at_ hlt
      generalize xs.getD k 0 = x at *
      go_wp2
      go_quiet (fail)
      go_wp2
      go_roundw
      case rel => exact ⟨k + 1, _, by go_num, by omega, by first | rfl | (simp only [World.drewN_drewN]; done) | (simp only [World.drewN_drewN]; rfl)⟩
      case measure => simp only [intOf]; omega
    · obtain rfl : k = xs.length := by omega
      go_wp2
      go_ret
      exact ⟨rfl, n, rfl⟩

end Go.Proofs.YthaooekohjmhdaaDoor
