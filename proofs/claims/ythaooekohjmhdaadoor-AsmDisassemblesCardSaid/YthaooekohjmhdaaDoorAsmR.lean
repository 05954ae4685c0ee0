/- Walks of the document's answer for layer 25: within, Ops, Has. No condition. -/
import Derived.Test.YthaooekohjmhdaaDoorAsmL
import Derived.Test.YthaooekohjmhdaaDoorQuiet
import Derived.Test.YthaooekohjmhdaaDoorKit
set_option linter.unusedVariables false
set_option linter.unusedSimpArgs false
namespace Go.Proofs.YthaooekohjmhdaaDoor
open Go.RowKit

set_option maxHeartbeats 400000 in
theorem ref_within (x n : Int) (w : World) :
    Calls Tryd.prog 17 #[.int .i64 x, .int .i64 n] w fun e w' => e = .returned (.bool (decide (0 ≤ x) && decide (x < n))) ∧ w = w' := by
  go_enter Tryd.func17, Tryd.ntmps17
  go_wp2
  all_goals
    go_ret
    exact ⟨by simp [*] <;> omega, rfl⟩

/-- the document's table of operations, as cells and as a list. -/
def opsCells : Array Value := #[.string ⟨#[]⟩, .int .i64 0, .int .i64 0, .string ⟨#[97, 100, 100]⟩, .int .i64 32, .int .i64 0, .string ⟨#[115, 117, 98]⟩, .int .i64 32, .int .i64 0, .string ⟨#[109, 117, 108]⟩, .int .i64 32, .int .i64 0, .string ⟨#[100, 105, 118]⟩, .int .i64 32, .int .i64 0, .string ⟨#[115, 113, 114, 116]⟩, .int .i64 0, .int .i64 0, .string ⟨#[102, 109, 97]⟩, .int .i64 32, .int .i64 32, .string ⟨#[114, 101, 109]⟩, .int .i64 32, .int .i64 0, .string ⟨#[109, 111, 100]⟩, .int .i64 32, .int .i64 0, .string ⟨#[114, 105, 110, 116]⟩, .int .i64 0, .int .i64 0, .string ⟨#[99, 118, 116]⟩, .int .i64 0, .int .i64 4, .string ⟨#[116, 111, 105, 110, 116]⟩, .int .i64 0, .int .i64 4, .string ⟨#[102, 114, 111, 109, 105, 110, 116]⟩, .int .i64 0, .int .i64 4, .string ⟨#[109, 105, 110]⟩, .int .i64 32, .int .i64 0, .string ⟨#[109, 97, 120]⟩, .int .i64 32, .int .i64 0, .string ⟨#[99, 109, 112]⟩, .int .i64 32, .int .i64 0, .string ⟨#[115, 105, 103]⟩, .int .i64 32, .int .i64 0, .string ⟨#[110, 101, 120, 116]⟩, .int .i64 0, .int .i64 0, .string ⟨#[115, 99, 97, 108, 101]⟩, .int .i64 32, .int .i64 0, .string ⟨#[99, 108, 97, 115, 115]⟩, .int .i64 0, .int .i64 0, .string ⟨#[110, 101, 103]⟩, .int .i64 0, .int .i64 0, .string ⟨#[97, 98, 115]⟩, .int .i64 0, .int .i64 0, .string ⟨#[99, 111, 112, 121, 115, 105, 103, 110]⟩, .int .i64 32, .int .i64 0]
def opsList : List (ByteArray × Int × Int) := [(⟨#[]⟩, 0, 0), (⟨#[97, 100, 100]⟩, 32, 0), (⟨#[115, 117, 98]⟩, 32, 0), (⟨#[109, 117, 108]⟩, 32, 0), (⟨#[100, 105, 118]⟩, 32, 0), (⟨#[115, 113, 114, 116]⟩, 0, 0), (⟨#[102, 109, 97]⟩, 32, 32), (⟨#[114, 101, 109]⟩, 32, 0), (⟨#[109, 111, 100]⟩, 32, 0), (⟨#[114, 105, 110, 116]⟩, 0, 0), (⟨#[99, 118, 116]⟩, 0, 4), (⟨#[116, 111, 105, 110, 116]⟩, 0, 4), (⟨#[102, 114, 111, 109, 105, 110, 116]⟩, 0, 4), (⟨#[109, 105, 110]⟩, 32, 0), (⟨#[109, 97, 120]⟩, 32, 0), (⟨#[99, 109, 112]⟩, 32, 0), (⟨#[115, 105, 103]⟩, 32, 0), (⟨#[110, 101, 120, 116]⟩, 0, 0), (⟨#[115, 99, 97, 108, 101]⟩, 32, 0), (⟨#[99, 108, 97, 115, 115]⟩, 0, 0), (⟨#[110, 101, 103]⟩, 0, 0), (⟨#[97, 98, 115]⟩, 0, 0), (⟨#[99, 111, 112, 121, 115, 105, 103, 110]⟩, 32, 0)]
def opAt (m : Nat) : ByteArray × Int × Int := opsList.getD m (⟨#[]⟩, 0, 0)
theorem ops_cell (m : Nat) (h : m < 23) : opsCells[m * 3]? = some (.string (opAt m).1) ∧ opsCells[m * 3 + 1]? = some (.int .i64 (opAt m).2.1) ∧ opsCells[m * 3 + 2]? = some (.int .i64 (opAt m).2.2) := by
  have h2 : m = 0 ∨ m = 1 ∨ m = 2 ∨ m = 3 ∨ m = 4 ∨ m = 5 ∨ m = 6 ∨ m = 7 ∨ m = 8 ∨ m = 9 ∨ m = 10 ∨ m = 11 ∨ m = 12 ∨ m = 13 ∨ m = 14 ∨ m = 15 ∨ m = 16 ∨ m = 17 ∨ m = 18 ∨ m = 19 ∨ m = 20 ∨ m = 21 ∨ m = 22 := by omega
  rcases h2 with rfl | rfl | rfl | rfl | rfl | rfl | rfl | rfl | rfl | rfl | rfl | rfl | rfl | rfl | rfl | rfl | rfl | rfl | rfl | rfl | rfl | rfl | rfl
  all_goals exact ⟨rfl, rfl, rfl⟩
theorem opAt_bc (m : Nat) (h1 : 1 ≤ m) (h : m < 23) : opBC (m : Int) = (if (1 : Int) < (opAt m).2.1 then (opAt m).2.1 else 1, if (1 : Int) < (opAt m).2.2 then (opAt m).2.2 else 1) := by
  have h2 : m = 1 ∨ m = 2 ∨ m = 3 ∨ m = 4 ∨ m = 5 ∨ m = 6 ∨ m = 7 ∨ m = 8 ∨ m = 9 ∨ m = 10 ∨ m = 11 ∨ m = 12 ∨ m = 13 ∨ m = 14 ∨ m = 15 ∨ m = 16 ∨ m = 17 ∨ m = 18 ∨ m = 19 ∨ m = 20 ∨ m = 21 ∨ m = 22 := by omega
  rcases h2 with rfl | rfl | rfl | rfl | rfl | rfl | rfl | rfl | rfl | rfl | rfl | rfl | rfl | rfl | rfl | rfl | rfl | rfl | rfl | rfl | rfl | rfl
  all_goals decide

set_option maxHeartbeats 400000 in
theorem ref_Ops (w : World) :
    Calls Tryd.prog 30 #[] w fun e w' => e = .returned (.slice (some ⟨w.heap.size, 0, none⟩) 23 23) ∧ Below w.heap.size w w' ∧ w'.heap.size = w.heap.size + 1 ∧
      w'.heap[w.heap.size]? = some (.cells opsCells 81 (0, 0)) := by
  go_enter Tryd.func30, Tryd.ntmps30
  go_wp2
  go_ret
  exact ⟨rfl, (Below.refl _ _).alloc (Nat.le_refl _) _, by simp, heap_alloc_new w _⟩

def Fld.cells (f : Fld) : Array Value := #[.int .i64 f.d, .int .i64 f.a, .int .i64 f.b, .int .i64 f.e, .int .i64 f.lo, .int .i64 f.hi]

theorem ops_reads {w' : World} {g : Nat} (h : w'.heap[g]? = some (.cells opsCells 81 (0, 0))) (m : Nat) (hm : m < 23) :
    w'.cell? ⟨g, m * 3, none⟩ = some (.string (opAt m).1) ∧ w'.cell? ⟨g, m * 3 + 1, none⟩ = some (.int .i64 (opAt m).2.1) ∧ w'.cell? ⟨g, m * 3 + 2, none⟩ = some (.int .i64 (opAt m).2.2) := by
  obtain ⟨h1, h2, h3⟩ := ops_cell m hm
  simp only [World.cell?, h]
  exact ⟨by simpa using h1, by simpa using h2, by simpa using h3⟩

def HasE (w : World) (x : Fld × Bool) (e : Ending) (w' : World) : Prop := e = .returned (.tuple #[.agg x.1.cells, .bool x.2]) ∧ Below w.heap.size w w'

theorem set6 {W : World} {g : Nat} {a0 a1 a2 a3 a4 a5 : Value} {t : TypeId} {fz : Nat × Nat} (h : W.heap[g]? = some (.cells #[a0, a1, a2, a3, a4, a5] t fz)) (v0 v1 v2 v3 v4 v5 : Value) :
    ((((((W.setCell ⟨g, 0, none⟩ v0).setCell ⟨g, 1, none⟩ v1).setCell ⟨g, 2, none⟩ v2).setCell ⟨g, 3, none⟩ v3).setCell ⟨g, 4, none⟩ v4).setCell ⟨g, 5, none⟩ v5) = setB W g (.cells #[v0, v1, v2, v3, v4, v5] t fz) := by
  have hg : g < W.heap.size := (Array.getElem?_eq_some_iff.1 h).1
  rw [setCell_block h, setCell_block (setB_get hg), setB_setB, setCell_block (setB_get hg), setB_setB, setCell_block (setB_get hg), setB_setB, setCell_block (setB_get hg), setB_setB, setCell_block (setB_get hg), setB_setB]
  rfl

set_option maxHeartbeats 4000000 in
theorem ref_Has_1 (f d a b e : Int) (m : Nat) (hf0 : 0 ≤ f) (hf3 : f ≤ 3) (hm1 : 1 ≤ m) (hm : m < 23) (w : World) :
    Calls Tryd.prog 16 #[.agg (Ins.mk 1 f d a b e m).cellsR] w (HasE w (⟨32, 32, (opBC m).1, (opBC m).2, 1, 22⟩, true)) := by
  have hb := opAt_bc m hm1 hm
  have HO := Lib.hid fun (w' : World) g h => ops_reads (w' := w') (g := g) h m hm
  have HB := Lib.hid hb
  generalize hO : opAt m = O at *
  obtain ⟨s, B, C⟩ := O
  clear hb hO
  unfold Ins.cellsR
  go_enter Tryd.func16, Tryd.ntmps16
  go_wp2_with (go_at_call 30; refine (ref_Ops _).mono ?_; rintro e w1 ⟨rfl, hb1, hs1, hrow⟩; obtain ⟨k1, k2, k3⟩ := HO.out _ _ hrow; have HZ1 := Lib.hid (show w1.heap[w.heap.size + 1]? = some (.cells #[.int .i64 0, .int .i64 0, .int .i64 0, .int .i64 0, .int .i64 0, .int .i64 0] 51 (0, 0)) from at_below (by repeat' (first | assumption | (refine at_new ?_; (simp; done)) | (refine setB_get ?_; (simp; done)) | refine at_old ?_ _ | refine at_drewN ?_ _ | (refine at_setB ?_ _ ?_; rotate_left; (simp; done)))) hb1); obtain ⟨hc1, hf1⟩ := bcell hb1; have HBW := Lib.hid (show Below w.heap.size w w1 from Below.trans (by repeat' (first | (with_reducible exact Below.refl _ _) | (with_reducible refine below_drewN ?_ _) | (with_reducible refine setB_below ?_ (by simp <;> omega) _) | (with_reducible refine Below.alloc ?_ (by simp <;> omega) _))) (hb1.mono (by simp <;> omega))); simp at k1 k2 k3 hs1; clear hb1 hrow)
  all_goals

    have e1 : w1.heap.size = w.heap.size + 1 + 1 + 1 + 1 := by omega
    rw [set6 HZ1.out]
    refine bodyPost_ret (results_ct rfl _ _ (w.heap.size + 1) _ _ _ _ rfl (at_old (setB_get (by omega)) _) Tryd.underlying51 rfl (by kernel_rfl)) rfl ?_
    refine ⟨ret2 ?_ rfl, (setB_below HBW.out (by omega) _).alloc (by rw [setB_size]; omega) _⟩
    rw [HB.out]
    simp only [Fld.cells]
    first
      | rw [if_pos (by omega), if_pos (by omega)]
      | rw [if_pos (by omega), if_neg (by omega)]
      | rw [if_neg (by omega), if_pos (by omega)]
      | rw [if_neg (by omega), if_neg (by omega)]

set_option maxHeartbeats 4000000 in
theorem ref_Has_bad (f d a b e m : Int) (h : f < 0 ∨ 3 < f ∨ m < 1 ∨ 23 ≤ m) (w : World) :
    Calls Tryd.prog 16 #[.agg (Ins.mk 1 f d a b e m).cellsR] w (HasE w (⟨1, 1, 1, 1, 0, 0⟩, false)) := by
  unfold Ins.cellsR
  have h' : f < 0 ∨ ¬ f < 0 ∧ 3 < f ∨ ¬ f < 0 ∧ ¬ 3 < f ∧ m < 1 ∨ ¬ f < 0 ∧ ¬ 3 < f ∧ ¬ m < 1 ∧ 23 ≤ m := by omega
  clear h
  rcases h' with h1 | ⟨h1, h2⟩ | ⟨h1, h2, h3⟩ | ⟨h1, h2, h3, h4⟩
  all_goals
    go_enter Tryd.func16, Tryd.ntmps16
    go_wp2_with (go_at_call 30; refine (ref_Ops _).mono ?_; rintro e w1 ⟨rfl, hb1, hs1, hrow⟩;  have HZ1 := Lib.hid (show w1.heap[w.heap.size + 1]? = some (.cells #[.int .i64 0, .int .i64 0, .int .i64 0, .int .i64 0, .int .i64 0, .int .i64 0] 51 (0, 0)) from at_below (by repeat' (first | assumption | (refine at_new ?_; (simp; done)) | (refine setB_get ?_; (simp; done)) | refine at_old ?_ _ | refine at_drewN ?_ _ | (refine at_setB ?_ _ ?_; rotate_left; (simp; done)))) hb1); obtain ⟨hc1, hf1⟩ := bcell hb1; have HBW := Lib.hid (show Below w.heap.size w w1 from Below.trans (by repeat' (first | (with_reducible exact Below.refl _ _) | (with_reducible refine below_drewN ?_ _) | (with_reducible refine setB_below ?_ (by simp <;> omega) _) | (with_reducible refine Below.alloc ?_ (by simp <;> omega) _))) (hb1.mono (by simp <;> omega))); simp  at hs1; clear hb1 hrow)
    have e1 : w1.heap.size = w.heap.size + 1 + 1 + 1 + 1 := by omega
    rw [set6 HZ1.out]
    refine bodyPost_ret (results_ct rfl _ _ (w.heap.size + 1) _ _ _ _ rfl (setB_get (by omega)) Tryd.underlying51 rfl (by kernel_rfl)) rfl ?_
    exact ⟨ret2 rfl rfl, setB_below HBW.out (by omega) _⟩

set_option maxHeartbeats 8000000 in
theorem ref_Has_rest (c f d a b e m : Int) (hc : c = 0 ∨ c = 14 ∨ c = 2 ∨ c = 5 ∨ c = 7 ∨ c = 3 ∨ c = 4 ∨ c = 6 ∨ c = 8 ∨ c = 13 ∨ c = 9 ∨ c = 10 ∨ c = 11 ∨ c = 12) (w : World) :
    Calls Tryd.prog 16 #[.agg (Ins.mk c f d a b e m).cellsR] w (HasE w (hasF ⟨c, f, d, a, b, e, m⟩)) := by
  unfold Ins.cellsR
  rcases hc with rfl | rfl | rfl | rfl | rfl | rfl | rfl | rfl | rfl | rfl | rfl | rfl | rfl | rfl
  all_goals
    go_enter Tryd.func16, Tryd.ntmps16
    go_wp2
    refine bodyPost_ret (results_ct rfl _ _ (w.heap.size + 1) _ _ _ _ rfl (by repeat' (first | assumption | (refine at_new ?_; (simp; done)) | (refine setB_get ?_; (simp; done)) | refine at_old ?_ _ | refine at_drewN ?_ _ | (refine at_setB ?_ _ ?_; rotate_left; (simp; done)))) Tryd.underlying51 rfl (by kernel_rfl)) rfl ?_
    exact ⟨ret2 rfl rfl, by repeat' (first | (with_reducible exact Below.refl _ _) | (with_reducible refine below_drewN ?_ _) | (with_reducible refine setB_below ?_ (by simp <;> omega) _) | (with_reducible refine Below.alloc ?_ (by simp <;> omega) _))⟩

set_option maxHeartbeats 8000000 in
theorem ref_Has_no (c f d a b e m : Int) (hc : c < 0 ∨ 14 < c) (w : World) :
    Calls Tryd.prog 16 #[.agg (Ins.mk c f d a b e m).cellsR] w (HasE w (⟨1, 1, 1, 1, 0, 0⟩, false)) := by
  unfold Ins.cellsR
  have k0 : (c == 0) = false := by simp; omega
  have k1 : (c == 1) = false := by simp; omega
  have k2 : (c == 2) = false := by simp; omega
  have k3 : (c == 3) = false := by simp; omega
  have k4 : (c == 4) = false := by simp; omega
  have k5 : (c == 5) = false := by simp; omega
  have k6 : (c == 6) = false := by simp; omega
  have k7 : (c == 7) = false := by simp; omega
  have k8 : (c == 8) = false := by simp; omega
  have k9 : (c == 9) = false := by simp; omega
  have k10 : (c == 10) = false := by simp; omega
  have k11 : (c == 11) = false := by simp; omega
  have k12 : (c == 12) = false := by simp; omega
  have k13 : (c == 13) = false := by simp; omega
  have k14 : (c == 14) = false := by simp; omega
  clear hc
  go_enter Tryd.func16, Tryd.ntmps16
  go_wp2
  refine bodyPost_ret (results_ct rfl _ _ (w.heap.size + 1) _ _ _ _ rfl (by repeat' (first | assumption | (refine at_new ?_; (simp; done)) | (refine setB_get ?_; (simp; done)) | refine at_old ?_ _ | refine at_drewN ?_ _ | (refine at_setB ?_ _ ?_; rotate_left; (simp; done)))) Tryd.underlying51 rfl (by kernel_rfl)) rfl ?_
  exact ⟨ret2 rfl rfl, by repeat' (first | (with_reducible exact Below.refl _ _) | (with_reducible refine below_drewN ?_ _) | (with_reducible refine setB_below ?_ (by simp <;> omega) _) | (with_reducible refine Below.alloc ?_ (by simp <;> omega) _))⟩

theorem ref_Has (i : Ins) (w : World) :
    Calls Tryd.prog 16 #[.agg i.cellsR] w (HasE w (hasF i)) := by
  obtain ⟨c, f, d, a, b, e, m⟩ := i
  by_cases hc : c < 0 ∨ 14 < c
  · have : hasF ⟨c, f, d, a, b, e, m⟩ = (⟨1, 1, 1, 1, 0, 0⟩, false) := by
      unfold hasF
      simp only
      repeat rw [if_neg (by omega)]
    rw [this]
    exact ref_Has_no c f d a b e m hc w
  · by_cases h1 : c = 1
    · subst h1
      by_cases hb : f < 0 ∨ 3 < f ∨ m < 1 ∨ 23 ≤ m
      · have : hasF ⟨1, f, d, a, b, e, m⟩ = (⟨1, 1, 1, 1, 0, 0⟩, false) := by
          unfold hasF
          simp only
          rw [if_neg (by omega), if_pos trivial, if_pos hb]
        rw [this]
        exact ref_Has_bad f d a b e m hb w
      · have : hasF ⟨1, f, d, a, b, e, m⟩ = (⟨32, 32, (opBC m).1, (opBC m).2, 1, 22⟩, true) := by
          unfold hasF
          simp only
          rw [if_neg (by omega), if_pos trivial, if_neg hb]
        rw [this]
        obtain ⟨k, rfl⟩ := Int.eq_ofNat_of_zero_le (a := m) (by omega)
        exact ref_Has_1 f d a b e k (by omega) (by omega) (by omega) (by omega) w
    · exact ref_Has_rest c f d a b e m (by omega) w

end Go.Proofs.YthaooekohjmhdaaDoor
